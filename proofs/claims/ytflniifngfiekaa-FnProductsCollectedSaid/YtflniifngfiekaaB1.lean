/-
  Texts of one proof, put together by program: Core, Facts, FactsS, Step, FactsC, Mem, Mem2, Mem3, Mem4, Mem5, Math1, Pres, Lst, PresP.
  Conditions: those told at each part.
-/
import Derived.WalkKit
import Derived.OrdersHeld
import Derived.Deep.LoopGhost
import Derived.Laws.Cover3
import Derived.Maps.AppendAt
set_option linter.unusedVariables false
set_option linter.unusedSimpArgs false
set_option linter.unusedSectionVars false
set_option linter.constructorNameAsVariable false
set_option linter.unnecessarySimpa false
set_option linter.deprecated false
/-
  A small calculus over the kit's 'Code.wp': frames are functions from slots to values, operations that only read are stepped by one rule each.
  Conditions: none; nothing of the program stands here.
-/
namespace Go.Pc
open Go Go.RowKit

/-! ### frames -/
def Env : Type := Nat → Value
def put (ρ : Env) (d : Nat) (v : Value) : Env := fun t => if t = d then v else ρ t
def get (ρ : Env) (t : Nat) : Value := ρ t
def argsEnv (l : List Value) : Env := fun t => l.getD t undef
theorem get_put (ρ : Env) (d t : Nat) (v : Value) : get (put ρ d v) t = if t = d then v else get ρ t := rfl
theorem get_args (l : List Value) (t : Nat) : get (argsEnv l) t = l.getD t undef := rfl
def ev (ρ : Env) : Operand → Value
  | .tmp t => get ρ t
  | .const v => v
  | .global g => .pointer (some ⟨g, 0, none⟩)
  | .func f => .func (.func f) #[] #[]
theorem ev_tmp (ρ : Env) (t : Nat) : ev ρ (.tmp t) = get ρ t := rfl
theorem ev_const (ρ : Env) (v : Value) : ev ρ (.const v) = v := rfl
theorem ev_func (ρ : Env) (f : Nat) : ev ρ (.func f) = .func (.func f) #[] #[] := rfl

structure Ok (N : Nat) (a : Act) (ρ : Env) : Prop where
  size : a.tmps.size = N
  defers : a.defers = []
  env : ∀ t, a.tmps.getD t undef = ρ t

theorem Ok.eval {N : Nat} {a : Act} {ρ : Env} (h : Ok N a ρ) : a.eval = ev ρ := by
  funext x; cases x with
  | tmp t => exact h.env t
  | _ => rfl

theorem Ok.put {N : Nat} {a : Act} {ρ : Env} (h : Ok N a ρ) {d : Nat} (hd : d < N) (v : Value) : Ok N (a.put (some d) v) (put ρ d v) := by
  refine ⟨by simp [Act.put, h.size], h.defers, fun t => ?_⟩
  have hs := h.size
  have he := h.env t
  simp only [Act.put, Pc.put]
  by_cases e : t = d
  · subst e
    simp [Array.getD, hs, hd]
  · rw [if_neg e, ← he]
    simp [Array.getD_eq_getD_getElem?, Ne.symm e]

abbrev Post := Exit → Env → World → Prop
def liftQ (N : Nat) (Q : Post) : Exit → Act → World → Prop := fun e a w => ∃ ρ, Ok N a ρ ∧ Q e ρ w
def rwp (P : Program) (N : Nat) (c : Code) (Q : Post) (ρ : Env) (w : World) : Prop := ∀ a, Ok N a ρ → c.wp P (liftQ N Q) a w

theorem rwp_mono {P : Program} {N : Nat} {c : Code} {Q Q' : Post} {ρ : Env} {w : World} (h : rwp P N c Q ρ w) (hq : ∀ e ρ w, Q e ρ w → Q' e ρ w) : rwp P N c Q' ρ w :=
  fun a ha => wp_mono (h a ha) fun _ _ _ ⟨ρ, h1, h2⟩ => ⟨ρ, h1, hq _ _ _ h2⟩

/-! ### structure -/
def thn (P : Program) (N : Nat) (y : Code) (Q : Post) : Post
  | .normal, ρ, w => rwp P N y Q ρ w
  | e, ρ, w => Q e ρ w
def inBlk (id : Nat) (Q : Post) : Post
  | .exit id', ρ, w => if id' = id then Q .normal ρ w else Q (.exit id') ρ w
  | e, ρ, w => Q e ρ w
def onK (K : Env → World → Prop) : Post
  | .normal, ρ, w => K ρ w
  | _, _, _ => False

section
variable {P : Program} {N : Nat} {Q : Post} {ρ : Env} {w : World}

theorem r_seq {x y : Code} (h : rwp P N x (thn P N y Q) ρ w) : rwp P N (.seq x y) Q ρ w := by
  intro a ha
  refine wp_seq (wp_mono (h a ha) ?_)
  rintro e a' w' ⟨ρ', h1, h2⟩
  cases e with
  | normal => exact h2 a' h1
  | _ => exact ⟨ρ', h1, h2⟩
theorem r_skip (h : Q .normal ρ w) : rwp P N .skip Q ρ w := fun _ ha => wp_skip ⟨ρ, ha, h⟩
theorem r_exit {id : Nat} (h : Q (.exit id) ρ w) : rwp P N (.exit id) Q ρ w := fun _ ha => wp_exit ⟨ρ, ha, h⟩
theorem r_ret (h : Q .ret ρ w) : rwp P N .ret Q ρ w := fun _ ha => wp_ret ⟨ρ, ha, h⟩
theorem r_block {id : Nat} {c : Code} (h : rwp P N c (inBlk id Q) ρ w) : rwp P N (.block id c) Q ρ w := by
  intro a ha
  refine wp_block (wp_mono (h a ha) ?_)
  rintro e a' w' ⟨ρ', h1, h2⟩
  cases e with
  | exit id' =>
    simp only [inBlk] at h2
    simp only [Exit.inBlock]
    split <;> rename_i hid
    · rw [if_pos hid] at h2; exact ⟨ρ', h1, h2⟩
    · rw [if_neg hid] at h2; exact ⟨ρ', h1, h2⟩
  | _ => exact ⟨ρ', h1, h2⟩
theorem r_cond {c : Operand} {x y : Code} {t : Bool} (hc : ev ρ c = .bool t) (ht : t = true → rwp P N x Q ρ w) (hf : t = false → rwp P N y Q ρ w) :
    rwp P N (.cond c x y) Q ρ w :=
  fun a ha => wp_cond_split (by rw [ha.eval]; exact hc) (fun h => ht h a ha) (fun h => hf h a ha)

theorem onK_normal {K : Env → World → Prop} (h : K ρ w) : onK K .normal ρ w := h
theorem thn_normal {y : Code} (h : rwp P N y Q ρ w) : thn P N y Q .normal ρ w := h
theorem thn_exit {y : Code} {id : Nat} (h : Q (.exit id) ρ w) : thn P N y Q (.exit id) ρ w := h
theorem thn_ret {y : Code} (h : Q .ret ρ w) : thn P N y Q .ret ρ w := h
theorem inBlk_normal {id : Nat} (h : Q .normal ρ w) : inBlk id Q .normal ρ w := h
theorem inBlk_ret {id : Nat} (h : Q .ret ρ w) : inBlk id Q .ret ρ w := h
theorem inBlk_hit {id : Nat} (h : Q .normal ρ w) : inBlk id Q (.exit id) ρ w := by simp only [inBlk, if_true]; exact h
theorem inBlk_miss {id id' : Nat} (hne : id' ≠ id) (h : Q (.exit id') ρ w) : inBlk id Q (.exit id') ρ w := by simp only [inBlk, if_neg hne]; exact h

/-- A loop, by a relation that bears a number, which every round lowers. -/
def loopQ (I : Nat → Env → World → Prop) (n : Nat) (Q : Post) : Post
  | .normal, ρ, w => ∃ m, m < n ∧ I m ρ w
  | e, ρ, w => Q e ρ w
theorem r_loop {c : Code} (I : Nat → Env → World → Prop) (n₀ : Nat) (h0 : I n₀ ρ w)
    (round : ∀ n ρ w, I n ρ w → rwp P N c (loopQ I n Q) ρ w) : rwp P N (.loop c) Q ρ w := by
  intro a ha
  refine wp_loop_ghost (fun n a w => ∃ ρ, Ok N a ρ ∧ I n ρ w) n₀ ⟨ρ, ha, h0⟩ ?_
  rintro n a' w' ⟨ρ', h1, h2⟩
  refine wp_mono (round n ρ' w' h2 a' h1) ?_
  rintro e a2 w2 ⟨ρ2, h3, h4⟩
  cases e with
  | normal => obtain ⟨m, hm, hI⟩ := h4; exact ⟨m, hm, ρ2, h3, hI⟩
  | _ => exact ⟨ρ2, h3, h4⟩
/-- A loop of rounds that are counted upwards, at most n of them. -/
def forQ (I : Nat → Env → World → Prop) (n k : Nat) (Q : Post) : Post
  | .normal, ρ, w => k < n ∧ I (k + 1) ρ w
  | e, ρ, w => Q e ρ w
theorem r_for {c : Code} (n : Nat) (I : Nat → Env → World → Prop) (h0 : I 0 ρ w)
    (round : ∀ k ρ w, k ≤ n → I k ρ w → rwp P N c (forQ I n k Q) ρ w) : rwp P N (.loop c) Q ρ w := by
  refine r_loop (fun m ρ w => ∃ k, k ≤ n ∧ m = n - k ∧ I k ρ w) n ⟨0, Nat.zero_le _, rfl, h0⟩ ?_
  rintro m ρ' w' ⟨k, hk, rfl, hI⟩
  refine rwp_mono (round k ρ' w' hk hI) ?_
  intro e ρ2 w2 h
  cases e with
  | normal => exact ⟨n - (k + 1), by have := h.1; omega, k + 1, h.1, rfl, h.2⟩
  | _ => exact h
theorem loopQ_normal {I : Nat → Env → World → Prop} {n m : Nat} (hm : m < n) (h : I m ρ w) : loopQ I n Q .normal ρ w := ⟨m, hm, h⟩
theorem loopQ_exit {I : Nat → Env → World → Prop} {n id : Nat} (h : Q (.exit id) ρ w) : loopQ I n Q (.exit id) ρ w := h
theorem loopQ_ret {I : Nat → Env → World → Prop} {n : Nat} (h : Q .ret ρ w) : loopQ I n Q .ret ρ w := h
theorem forQ_normal {I : Nat → Env → World → Prop} {n k : Nat} (hk : k < n) (h : I (k + 1) ρ w) : forQ I n k Q .normal ρ w := ⟨hk, h⟩
theorem forQ_exit {I : Nat → Env → World → Prop} {n k id : Nat} (h : Q (.exit id) ρ w) : forQ I n k Q (.exit id) ρ w := h
theorem forQ_ret {I : Nat → Env → World → Prop} {n k : Nat} (h : Q .ret ρ w) : forQ I n k Q .ret ρ w := h

/-! ### entering a function, leaving it -/
def Ret (R : Value → World → Prop) : Ending → World → Prop
  | .returned v, w => R v w
  | _, _ => False
/-- What a result variable holds at the end. -/
def rvOk (P : Program) (ρ : Env) (w : World) : ResultVar → Value → Prop
  | .tmp t, v => get ρ t = v
  | .cell t ty, v => ∃ a, get ρ t = .pointer (some a) ∧ (loadVar ty a).run P w = .ok v w
def resOk (P : Program) (l : List ResultVar) (R : Value → World → Prop) (ρ : Env) (w : World) : Prop :=
  match l with
  | [] => R (.tuple #[]) w
  | [r] => ∃ v, rvOk P ρ w r v ∧ R v w
  | [r, s] => ∃ v x, rvOk P ρ w r v ∧ rvOk P ρ w s x ∧ R (.tuple #[v, x]) w
  | [r, s, u] => ∃ v x y, rvOk P ρ w r v ∧ rvOk P ρ w s x ∧ rvOk P ρ w u y ∧ R (.tuple #[v, x, y]) w
  | _ => False
def retQ (P : Program) (l : List ResultVar) (R : Value → World → Prop) : Post
  | .ret, ρ, w | .normal, ρ, w => resOk P l R ρ w
  | _, _, _ => False
theorem rv_tmp {t : Tmp} {v : Value} (hv : get ρ t = v) : rvOk P ρ w (.tmp t) v := hv
theorem rv_cell {t : Tmp} {ty : TypeId} {a : Addr} {v : Value} (hv : get ρ t = .pointer (some a)) (h : (loadVar ty a).run P w = .ok v w) : rvOk P ρ w (.cell t ty) v := ⟨a, hv, h⟩
theorem retQ_1 {r : ResultVar} {R : Value → World → Prop} {v : Value} (hv : rvOk P ρ w r v) (h : R v w) : retQ P [r] R .ret ρ w := ⟨v, hv, h⟩
theorem retQ_2 {r s : ResultVar} {R : Value → World → Prop} {v x : Value} (hv : rvOk P ρ w r v) (hx : rvOk P ρ w s x) (h : R (.tuple #[v, x]) w) : retQ P [r, s] R .ret ρ w := ⟨v, x, hv, hx, h⟩
theorem retQ_3 {r s u : ResultVar} {R : Value → World → Prop} {v x y : Value} (hv : rvOk P ρ w r v) (hx : rvOk P ρ w s x) (hy : rvOk P ρ w u y) (h : R (.tuple #[v, x, y]) w) : retQ P [r, s, u] R .ret ρ w := ⟨v, x, y, hv, hx, hy, h⟩
theorem retQ_0 {R : Value → World → Prop} (h : R (.tuple #[]) w) : retQ P [] R .normal ρ w := h
theorem results_resOk {fn : Func} {l : List ResultVar} (hl : fn.results = l.toArray) {a : Act} {ρ : Env} {N : Nat} (h : Ok N a ρ) {R : Value → World → Prop} (w : World) (hR : resOk P l R ρ w) :
    ∃ v, (results fn a.tmps).run P w = .ok v w ∧ R v w := by
  have he : ∀ t, a.tmps.getD t undef = get ρ t := h.env
  unfold resOk at hR
  split at hR
  · exact ⟨_, by simp [results, hl], hR⟩
  · rename_i r
    obtain ⟨v, h1, h2⟩ := hR
    refine ⟨v, ?_, h2⟩
    cases r with
    | tmp t => have h1 : get ρ t = v := h1; simp [results, hl, ← h1, ← he]
    | cell t ty => obtain ⟨a, h3, h4⟩ := h1; have := he t; rw [h3] at this; simp only [Array.getD_eq_getD_getElem?] at this; simp [results, hl, this, asAddr, h4]
  · rename_i r s
    obtain ⟨v, x, h1, h2, hr⟩ := hR
    refine ⟨_, ?_, hr⟩
    cases r with
    | tmp t =>
      have h1 : get ρ t = v := h1
      cases s with
      | tmp t' => have h2 : get ρ t' = x := h2; simp [results, hl, ← h1, ← h2, ← he]
      | cell t' ty => obtain ⟨a, h3, h4⟩ := h2; have := he t'; rw [h3] at this; simp only [Array.getD_eq_getD_getElem?] at this; simp [results, hl, this, asAddr, h4, ← h1, ← he]
    | cell t ty =>
      obtain ⟨a, h3, h4⟩ := h1; have := he t; rw [h3] at this
      simp only [Array.getD_eq_getD_getElem?] at this
      cases s with
      | tmp t' => have h2 : get ρ t' = x := h2; simp [results, hl, this, asAddr, h4, ← h2, ← he]
      | cell t' ty' => obtain ⟨a', h3', h4'⟩ := h2; have that := he t'; rw [h3'] at that; simp only [Array.getD_eq_getD_getElem?] at that; simp [results, hl, this, that, asAddr, h4, h4']
  · rename_i r s u
    obtain ⟨v, x, y, h1, h2, h3, hr⟩ := hR
    refine ⟨_, ?_, hr⟩
    cases r with
    | tmp t =>
      have h1 : get ρ t = v := h1
      cases s with
      | tmp t' =>
        have h2 : get ρ t' = x := h2
        cases u with
        | tmp t'' => have h3 : get ρ t'' = y := h3; simp [results, hl, ← h1, ← h2, ← h3, ← he]
        | cell t'' ty => obtain ⟨a, h5, h4⟩ := h3; have := he t''; rw [h5] at this; simp only [Array.getD_eq_getD_getElem?] at this; simp [results, hl, this, asAddr, h4, ← h1, ← h2, ← he]
      | cell t' ty =>
        obtain ⟨a, h5, h4⟩ := h2; have := he t'; rw [h5] at this
        simp only [Array.getD_eq_getD_getElem?] at this
        cases u with
        | tmp t'' => have h3 : get ρ t'' = y := h3; simp [results, hl, this, asAddr, h4, ← h1, ← h3, ← he]
        | cell t'' ty => obtain ⟨a', h5', h4'⟩ := h3; have that := he t''; rw [h5'] at that; simp only [Array.getD_eq_getD_getElem?] at that; simp [results, hl, this, that, asAddr, h4, h4', ← h1, ← he]
    | cell t ty =>
      obtain ⟨a, h5, h4⟩ := h1; have := he t; rw [h5] at this
      simp only [Array.getD_eq_getD_getElem?] at this
      cases s with
      | tmp t' =>
        have h2 : get ρ t' = x := h2
        cases u with
        | tmp t'' => have h3 : get ρ t'' = y := h3; simp [results, hl, this, asAddr, h4, ← h2, ← h3, ← he]
        | cell t'' ty => obtain ⟨a', h5', h4'⟩ := h3; have that := he t''; rw [h5'] at that; simp only [Array.getD_eq_getD_getElem?] at that; simp [results, hl, this, that, asAddr, h4, h4', ← h2, ← he]
      | cell t' ty =>
        obtain ⟨a', h5', h4'⟩ := h2; have that := he t'; rw [h5'] at that
        simp only [Array.getD_eq_getD_getElem?] at that
        cases u with
        | tmp t'' => have h3 : get ρ t'' = y := h3; simp [results, hl, this, that, asAddr, h4, h4', ← h3, ← he]
        | cell t'' ty => obtain ⟨a2, h6, h7⟩ := h3; have thus := he t''; rw [h6] at thus; simp only [Array.getD_eq_getD_getElem?] at thus; simp [results, hl, this, that, thus, asAddr, h4, h4', h7]
  · exact hR.elim

theorem enter {f : FuncId} {fn : Func} {c : Code} {args : List Value} {R : Value → World → Prop} (hf : P.funcs[f]? = some fn) (hb : fn.body = some c) {l : List ResultVar} (hl : fn.results = l.toArray)
    {n : Nat} (hn : fn.ntmps = n) (hlen : args.length ≤ n) (h : rwp P n c (retQ P l R) (argsEnv args) w) : Calls P f args.toArray w (Ret R) := by
  refine calls_of_wp hf hb ?_
  refine wp_mono (h _ ⟨?_, rfl, ?_⟩) ?_
  · simp [hn]; omega
  · intro t
    simp only [argsEnv, Array.getD_eq_getD_getElem?, List.getD_eq_getElem?_getD, Array.getElem?_append, Array.getElem?_replicate, List.size_toArray, List.getElem?_toArray]
    by_cases ht : t < args.length
    · simp [ht]
    · rw [if_neg ht, List.getElem?_eq_none (by omega)]
      split <;> rfl
  · rintro e a w' ⟨ρ', hok, hq⟩
    cases e with
    | ret => obtain ⟨v, hv, hR⟩ := results_resOk hl hok _ hq; exact ⟨hok.defers, v, hv, hR⟩
    | normal => obtain ⟨v, hv, hR⟩ := results_resOk hl hok _ hq; exact ⟨hok.defers, v, hv, hR⟩
    | _ => exact hq.elim
end

theorem Calls.ret_mono {P : Program} {f : FuncId} {args : Array Value} {w : World} {R R' : Value → World → Prop} (h : Calls P f args w (Ret R)) (hr : ∀ v w', R v w' → R' v w') : Calls P f args w (Ret R') :=
  h.mono fun e w' he => by cases e <;> first | exact hr _ _ he | exact he.elim

/-! ### regions -/
def dstsOk (N : Nat) (l : List Oper) : Bool := l.all fun o => match o.dst with | some d => decide (d < N) | none => true
def rops (P : Program) (N : Nat) (ops : Array Oper) (K : Env → World → Prop) (l : List Oper) (ρ : Env) (w : World) : Prop :=
  dstsOk N l = true → ∀ a, Ok N a ρ → wpList P ops (liftQ N (onK K)) l a w

section
variable {P : Program} {N : Nat} {ops : Array Oper} {K : Env → World → Prop} {ρ : Env} {w : World} {l : List Oper}

theorem r_region {Q : Post} {id : Nat} {l : List Oper} (hd : dstsOk N l = true) (h : rops P N l.toArray (fun ρ w => Q .normal ρ w) l ρ w) : rwp P N (.region id l.toArray false) Q ρ w := by
  intro a ha
  refine wp_mono (wp_region_lit (h hd a ha)) ?_
  rintro e a' w' ⟨ρ', h1, h2⟩
  cases e with
  | normal => exact ⟨ρ', h1, h2⟩
  | _ => exact h2.elim
theorem st_end (h : K ρ w) : rops P N ops K [] ρ w := fun _ _ ha => wpList_nil ⟨ρ, ha, h⟩

/-- What an operation that only reads leaves. -/
structure Rd (P : Program) (o : Op) (ty : TypeId) (ρ : Env) (w : World) (v : Value) : Prop where
  run : ∀ d pos after g, (execOp (ev ρ) ⟨d, o, ty, pos, after, g⟩).run P w = .ok (.value v) w
/-- What an operation leaves, and in which world. -/
structure Ex (P : Program) (o : Op) (ty : TypeId) (ρ : Env) (w : World) (v : Value) (w' : World) : Prop where
  run : ∀ d pos after g, (execOp (ev ρ) ⟨d, o, ty, pos, after, g⟩).run P w = .ok (.value v) w'
/-- An operation that stores: it leaves nothing in a slot. -/
structure Wr (P : Program) (o : Op) (ty : TypeId) (ρ : Env) (w : World) (w' : World) : Prop where
  run : ∀ d pos after g, (execOp (ev ρ) ⟨d, o, ty, pos, after, g⟩).run P w = .ok .skip w'
/-- A call of a function by its name. -/
structure Cl (P : Program) (o : Op) (ty : TypeId) (ρ : Env) (f : FuncId) (args : Array Value) : Prop where
  run : ∀ w d pos after g, (execOp (ev ρ) ⟨d, o, ty, pos, after, g⟩).run P w = .ok (.enter f args) w
/-- The guard of an operation says yes. -/
def Wants (ops : Array Oper) (ρ : Env) : Option (Nat × Bool) → Prop
  | none => True
  | some (j, b) => ∃ t, (ops[j]?).bind (·.dst) = some t ∧ get ρ t = .bool b

theorem yielded_eq {a : Act} (ha : Ok N a ρ) {j t : Nat} (ht : (ops[j]?).bind (·.dst) = some t) {b : Bool} (hb : get ρ t = .bool b) : yielded ops a.tmps j = some b := by
  have he := ha.env t
  unfold yielded
  rw [ht]
  simp only [Option.bind_some]
  have : a.tmps[t]? = some (.bool b) := by
    rw [Array.getD_eq_getD_getElem?] at he
    cases hx : a.tmps[t]? with
    | none =>
      rw [hx] at he
      have : undef = Value.bool b := by rw [← hb]; exact he
      simp [undef] at this
    | some x => rw [hx] at he; rw [← hb]; exact congrArg some he
  rw [this]
theorem yielded_undef {a : Act} (ha : Ok N a ρ) {j t : Nat} (ht : (ops[j]?).bind (·.dst) = some t) (hb : get ρ t = undef) : yielded ops a.tmps j = none := by
  have he := ha.env t
  unfold yielded
  rw [ht]
  simp only [Option.bind_some]
  rw [Array.getD_eq_getD_getElem?] at he
  cases hx : a.tmps[t]? with
  | none => rfl
  | some x =>
    rw [hx] at he
    have : x = undef := by rw [← hb]; exact he
    subst this
    rfl
theorem Wants.wanted {a : Act} (ha : Ok N a ρ) {o : Oper} (h : Wants ops ρ o.guard) : Region.wanted o (yielded ops a.tmps) = true := by
  unfold Region.wanted
  cases hg : o.guard with
  | none => rfl
  | some jb =>
    obtain ⟨j, b⟩ := jb
    rw [hg] at h
    obtain ⟨t, ht, hb⟩ := h
    simp [yielded_eq ha ht hb]

theorem dstsOk_cons {o : Oper} (h : dstsOk N (o :: l) = true) : dstsOk N l = true := by
  simp only [dstsOk, List.all_cons, Bool.and_eq_true] at h ⊢; exact h.2
theorem dstsOk_head {d : Nat} {op : Op} {ty : TypeId} {pos : String} {after : Array Edge} {g : Option (Nat × Bool)} (h : dstsOk N (⟨some d, op, ty, pos, after, g⟩ :: l) = true) : d < N := by
  simp only [dstsOk, List.all_cons, Bool.and_eq_true, decide_eq_true_eq] at h; exact h.1

variable {d : Nat} {op : Op} {ty : TypeId} {pos : String} {after : Array Edge} {g : Option (Nat × Bool)}

theorem st_ex {v : Value} {w' : World} (hg : Wants ops ρ g) (h : Ex P op ty ρ w v w') (next : rops P N ops K l (put ρ d v) w') :
    rops P N ops K (⟨some d, op, ty, pos, after, g⟩ :: l) ρ w := by
  intro hd a ha
  refine wpList_step fun K' hK' => ?_
  rw [if_pos (Wants.wanted ha hg)]
  unfold Oper.wp
  rw [ha.eval, h.run]
  exact hK' _ _ (next (dstsOk_cons hd) _ (ha.put (dstsOk_head hd) v))
theorem st_rd {v : Value} (hg : Wants ops ρ g) (h : Rd P op ty ρ w v) (next : rops P N ops K l (put ρ d v) w) :
    rops P N ops K (⟨some d, op, ty, pos, after, g⟩ :: l) ρ w := st_ex hg ⟨h.run⟩ next
theorem st_skip {j t : Nat} {b : Bool} (ht : (ops[j]?).bind (·.dst) = some t) (hb : get ρ t = .bool (!b)) (next : rops P N ops K l (put ρ d undef) w) :
    rops P N ops K (⟨some d, op, ty, pos, after, some (j, b)⟩ :: l) ρ w := by
  intro hd a ha
  refine wpList_step fun K' hK' => ?_
  rw [if_neg (by simp [Region.wanted, yielded_eq ha ht hb])]
  exact hK' _ _ (next (dstsOk_cons hd) _ (ha.put (dstsOk_head hd) undef))
theorem st_skipu {j t : Nat} {b : Bool} (ht : (ops[j]?).bind (·.dst) = some t) (hb : get ρ t = undef) (next : rops P N ops K l (put ρ d undef) w) :
    rops P N ops K (⟨some d, op, ty, pos, after, some (j, b)⟩ :: l) ρ w := by
  intro hd a ha
  refine wpList_step fun K' hK' => ?_
  rw [if_neg (by simp [Region.wanted, yielded_undef ha ht hb])]
  exact hK' _ _ (next (dstsOk_cons hd) _ (ha.put (dstsOk_head hd) undef))
theorem st_wr {w' : World} (hg : Wants ops ρ g) (h : Wr P op ty ρ w w') (next : rops P N ops K l ρ w') :
    rops P N ops K (⟨none, op, ty, pos, after, g⟩ :: l) ρ w := by
  intro hd a ha
  refine wpList_step fun K' hK' => ?_
  rw [if_pos (Wants.wanted ha hg)]
  unfold Oper.wp
  rw [ha.eval, h.run]
  exact hK' _ _ (next (dstsOk_cons hd) _ ha)
theorem st_call {f : FuncId} {args : Array Value} {R : Value → World → Prop} (hg : Wants ops ρ g) (ho : Cl P op ty ρ f args) (hc : Calls P f args w (Ret R))
    (next : ∀ v w', R v w' → rops P N ops K l (put ρ d v) w') : rops P N ops K (⟨some d, op, ty, pos, after, g⟩ :: l) ρ w := by
  intro hd a ha
  refine wpList_step fun K' hK' => ?_
  rw [if_pos (Wants.wanted ha hg)]
  unfold Oper.wp
  rw [ha.eval, ho.run w]
  refine Calls.mono hc fun e w' he => ?_
  cases e with
  | returned v => exact hK' _ _ (next v w' he (dstsOk_cons hd) _ (ha.put (dstsOk_head hd) v))
  | panicked c => exact he.elim
  | outgrown => exact he.elim
end

/-! ### regions that draw their order: in the order of the text, where each operation either yields one value in every world that meets 'S', or can only come up next -/
def listedTo (n : Nat) (l : List Nat) : Array Bool := ((List.range n).map fun j => l.contains j).toArray
/-- What comes up at place i of the order π, all ahead of it being listed: it may come up, and (if it is to be taken first) no other touches its slot. -/
def takeOk (ops : Array Oper) (π : List Nat) (i : Nat) : Bool := Region.free .any ops (listedTo ops.size (π.take i)) (π.getD i 0) && (Region.ready .any ops (listedTo ops.size (π.take i))).contains (π.getD i 0)
def nextOk (ops : Array Oper) (π : List Nat) (i : Nat) : Bool := Region.ready .any ops (listedTo ops.size (π.take i)) == [π.getD i 0]
def doneOk (ops : Array Oper) (π : List Nat) (i : Nat) : Bool := Region.ready .any ops (listedTo ops.size (π.take i)) == []
/-! whatever order is picked, a condition on the world being asked behind all operations but one that waits for all others -/
def wpAnyL (P : Program) (ops : Array Oper) (Q : Exit → Act → World → Prop) (S : World → Prop) (L : Option Nat) : Nat → Array Bool → Act → World → Prop
  | 0, listed, a, w => Region.ready .any ops listed = [] ∧ Q .normal a w
  | fuel + 1, listed, a, w =>
    (Region.ready .any ops listed = [] → Q .normal a w) ∧
    ∀ i ∈ Region.ready .any ops listed, wpOp P ops Q i (fun a' w' => (L ≠ some i → S w') ∧ wpAnyL P ops Q S L fuel (listed.setIfInBounds i true) a' w') a w
theorem wpAny_of_L {P : Program} {ops : Array Oper} {Q : Exit → Act → World → Prop} {S : World → Prop} {L : Option Nat} : ∀ (fuel : Nat) (listed : Array Bool) (a : Act) (w : World), wpAnyL P ops Q S L fuel listed a w → wpAny P .any ops Q fuel listed a w
  | 0, _, _, _, h => h
  | fuel + 1, _, _, _, h => ⟨h.1, fun i hi => wpOp_mono (fun a' w' h' => wpAny_of_L fuel _ a' w' h'.2) (h.2 i hi)⟩
/-- What has come up had nothing to wait for. -/
def Closed (ops : Array Oper) (listed : Array Bool) : Prop := ∀ j o, ops[j]? = some o → listed.getD j false = true → ∀ e ∈ o.after, Region.binds .any e = true → listed.getD e.on false = true
theorem Closed.step {ops : Array Oper} {listed : Array Bool} (h : Closed ops listed) {j : Nat} (hj : j ∈ Region.ready .any ops listed) : Closed ops (listed.setIfInBounds j true) := by
  intro k o hk hl e he hb
  by_cases ejk : j = k
  · subst ejk
    obtain ⟨_, o', ho', hall⟩ := mem_ready.1 hj
    rw [hk] at ho'; injection ho' with ho'; subst ho'
    exact getD_set_true (hall e he hb)
  · rw [getD_set_ne false ejk] at hl
    exact getD_set_true (h k o hk hl e he hb)
def isOn (ops : Array Oper) (i m : Nat) : Bool := match ops[m]? with | some o => o.after.any fun e => Region.binds .any e && e.on == i | none => false
theorem isOn_spec {ops : Array Oper} {i m : Nat} (h : isOn ops i m = true) : ∃ o e, ops[m]? = some o ∧ e ∈ o.after ∧ Region.binds .any e = true ∧ e.on = i := by
  unfold isOn at h
  split at h
  · rename_i o ho
    obtain ⟨k, hk, hb⟩ := Array.any_eq_true.1 h
    simp only [Bool.and_eq_true, beq_iff_eq] at hb
    exact ⟨o, o.after[k], ho, Array.getElem_mem hk, hb.1, hb.2⟩
  · cases h
/-- Each operation of the order but the last is waited for by a later one. -/
def sinkOk (ops : Array Oper) (π : List Nat) : Bool := (List.range (π.length - 1)).all fun t => (π.drop (t + 1)).any fun m => isOn ops (π.getD t 0) m
def lastOf (ops : Array Oper) (π : List Nat) : Option Nat := if sinkOk ops π = true then π.getLast? else none
theorem sink_all {ops : Array Oper} {π : List Nat} {listed : Array Bool} {L : Nat} (hs : lastOf ops π = some L) (hc : Closed ops listed) (hr : L ∈ Region.ready .any ops listed) : ∀ i, i ∈ π → i ≠ L → listed.getD i false = true := by
  unfold lastOf at hs
  split at hs
  · rename_i h
    obtain ⟨_, oL, hoL, hall⟩ := mem_ready.1 hr
    have key : ∀ m t, π.length - t ≤ m → t < π.length → π.getD t 0 = L ∨ listed.getD (π.getD t 0) false = true := by
      intro m
      induction m with
      | zero => intro t h1 h2; omega
      | succ m ih =>
        intro t h1 h2
        by_cases hl : t = π.length - 1
        · left
          rw [List.getLast?_eq_getElem?] at hs
          rw [List.getD_eq_getElem?_getD, hl, hs]; rfl
        · right
          have h3 := (List.all_eq_true.1 h) t (List.mem_range.2 (by omega))
          obtain ⟨k, hk, hon⟩ := List.any_eq_true.1 h3
          obtain ⟨o, e, ho, he, hb, hon⟩ := isOn_spec hon
          obtain ⟨s, hs1, hs2⟩ := List.getElem_of_mem hk
          have hs3 : π.getD (t + 1 + s) 0 = k := by
            rw [List.getElem_drop] at hs2
            rw [List.length_drop] at hs1
            simp [← hs2, show t + 1 + s < π.length by omega]
          rw [List.length_drop] at hs1
          rw [← hon]
          rcases ih (t + 1 + s) (by omega) (by omega) with h4 | h4
          · rw [hs3] at h4
            subst h4
            rw [ho] at hoL; injection hoL with hoL; subst hoL
            exact hall e he hb
          · rw [hs3] at h4
            exact hc k o ho h4 e he hb
    intro i hi hne
    obtain ⟨t, ht, rfl⟩ := List.getElem_of_mem hi
    have := key _ t (Nat.le_refl _) ht
    simp only [List.getD_eq_getElem?_getD, List.getElem?_eq_getElem ht, Option.getD_some] at this
    exact this.resolve_left hne
  · cases hs
theorem ready_off {ops : Array Oper} {listed : Array Bool} {i : Nat} (h : i ∈ Region.ready .any ops listed) : listed.getD i false = false := by
  have h0 := (mem_ready.1 h).1
  rcases Nat.lt_or_ge i listed.size with h' | h'
  · simpa [h'] using h0
  · simp [Array.getElem?_eq_none h']
theorem wpAnyL_first {P : Program} {ops : Array Oper} {Q : Exit → Act → World → Prop} {S : World → Prop} {L : Option Nat} {i : Nat} {oi : Oper} {v : Value} (hi : ops[i]? = some oi) (hsel : ∀ (j : Nat) (o : Oper) cs b, ops[j]? = some o → o.op ≠ .select cs b)
    (hQ : ∀ c a w, Q (.panic c) (a.put oi.dst v) w → Q (.panic c) a w) (hL : ∀ j, L = some j → j ≠ i → ∀ listed, Closed ops listed → j ∈ Region.ready .any ops listed → i ∉ Region.ready .any ops listed) :
    ∀ (fuel : Nat) (listed : Array Bool) (a : Act) (w : World), Closed ops listed →
      (∀ j oj, ops[j]? = some oj → j ≠ i → listed.getD j true = false → (∀ e ∈ oj.after, Region.binds .any e = true → e.on ≠ i) → oi.apart ops oj = true) →
      i ∈ Region.ready .any ops listed → YieldsIf P ops S oi v a → S w →
      wpAnyL P ops Q S L fuel (listed.setIfInBounds i true) (a.put oi.dst v) w → wpAnyL P ops Q S L (fuel + 1) listed a w := by
  intro fuel
  induction fuel with
  | zero =>
    intro listed a w _ _ hr hy hS H
    refine ⟨fun h => (by rw [h] at hr; cases hr), fun j hj => ?_⟩
    by_cases hji : j = i
    · subst hji; exact hy.wpOp hi hS ⟨fun _ => hS, H⟩
    · have := ready_mono hj hji
      rw [H.1] at this
      cases this
  | succ fuel ih =>
    intro listed a w hcl hfree hr hy hS H
    refine ⟨fun h => (by rw [h] at hr; cases hr), fun j hj => ?_⟩
    by_cases hji : j = i
    · subst hji; exact hy.wpOp hi hS ⟨fun _ => hS, H⟩
    · have hnL : L ≠ some j := fun e => hL j e hji listed hcl hj hr
      have h1 := H.2 j (ready_mono hj hji)
      obtain ⟨hjun, oj, hoj, hall⟩ := mem_ready.1 hj
      have hnot : ∀ e ∈ oj.after, Region.binds .any e = true → e.on ≠ i := fun e he hb heq => by
        have h1 := hall e he hb
        rw [heq, ready_off hr] at h1
        cases h1
      have h2 := wpOp_putIf hoj (hfree j oj hoj hji hjun hnot) (fun cs b => hsel i oi cs b hi) (fun cs b => hsel j oj cs b hoj) hQ hy h1
      have hfree' : ∀ k ok, ops[k]? = some ok → k ≠ i → (listed.setIfInBounds j true).getD k true = false →
          (∀ e ∈ ok.after, Region.binds .any e = true → e.on ≠ i) → oi.apart ops ok = true := fun k ok hk hki hun hno => by
        refine hfree k ok hk hki ?_ hno
        by_cases hjk : j = k
        · subst hjk; exact hjun
        · rw [getD_set_ne true hjk] at hun; exact hun
      refine wpOp_mono (fun a' w' h3 => ⟨h3.2.1, ih (listed.setIfInBounds j true) a' w' (hcl.step hj) hfree' (ready_mono hr (Ne.symm hji)) h3.1 (h3.2.1 hnL) ?_⟩) h2
      rw [Array.setIfInBounds_comm _ _ hji]
      exact h3.2.2
theorem wpAnyL_all {P : Program} {ops : Array Oper} {Q : Exit → Act → World → Prop} {S : World → Prop} {L : Option Nat} {rs : List Nat} {fuel : Nat} {listed : Array Bool} {a : Act} {w : World} (hr : Region.ready .any ops listed = rs) (hne : rs ≠ [])
    (h : ∀ i ∈ rs, wpOp P ops Q i (fun a' w' => (L ≠ some i → S w') ∧ wpAnyL P ops Q S L fuel (listed.setIfInBounds i true) a' w') a w) : wpAnyL P ops Q S L (fuel + 1) listed a w :=
  ⟨fun h0 => absurd (hr ▸ h0) hne, hr ▸ h⟩
theorem wpAnyL_done {P : Program} {ops : Array Oper} {Q : Exit → Act → World → Prop} {S : World → Prop} {L : Option Nat} {listed : Array Bool} {a : Act} {w : World} (hr : Region.ready .any ops listed = []) (h : Q .normal a w) :
    ∀ fuel, wpAnyL P ops Q S L fuel listed a w
  | 0 => ⟨hr, h⟩
  | _ + 1 => ⟨fun _ => h, by rw [hr]; simp⟩
def dops (P : Program) (N : Nat) (ops : Array Oper) (π : List Nat) (S : World → Prop) (K : Env → World → Prop) (i : Nat) (ρ : Env) (w : World) : Prop :=
  S w → ∀ a, Ok N a ρ → Closed ops (listedTo ops.size (π.take i)) → wpAnyL P ops (liftQ N (onK K)) S (lastOf ops π) (π.length - i) (listedTo ops.size (π.take i)) a w
theorem listed_next (n : Nat) (π : List Nat) (i : Nat) (hi : i < π.length) : (listedTo n (π.take i)).setIfInBounds (π.getD i 0) true = listedTo n (π.take (i + 1)) := by
  have ht : π.take (i + 1) = π.take i ++ [π.getD i 0] := by
    rw [List.take_succ_eq_append_getElem hi]
    simp [hi]
  rw [ht]
  generalize π.getD i 0 = q
  generalize π.take i = l
  apply Array.ext
  · simp [listedTo]
  · intro j h1 h2
    simp only [listedTo] at h1 h2 ⊢
    rw [Array.getElem_setIfInBounds (by simpa using h1)]
    by_cases e : q = j
    · subst e; simp
    · have e' : ¬ j = q := fun h => e h.symm
      simp [e, e']
def opAt (ops : Array Oper) (π : List Nat) (i : Nat) : Option Oper := if i < π.length then ops[π.getD i 0]? else none
theorem opAt_some {ops : Array Oper} {π : List Nat} {i : Nat} {o : Oper} (h : opAt ops π i = some o) : i < π.length ∧ ops[π.getD i 0]? = some o := by
  unfold opAt at h
  split at h
  · exact ⟨by assumption, h⟩
  · cases h
section
variable {P : Program} {N : Nat} {ops : Array Oper} {π : List Nat} {S : World → Prop} {K : Env → World → Prop} {ρ : Env} {w : World}
theorem r_draw {Q : Post} {id : Nat} (π : List Nat) (hπ : π.length = ops.size) (S : World → Prop) (hm : P.follows .mixedOrders = true) (hS : S { w with drawn := w.drawn + 1 }) (h : dops P N ops π S (fun ρ w => Q .normal ρ w) 0 ρ { w with drawn := w.drawn + 1 }) :
    rwp P N (.region id ops true) Q ρ w := by
  intro a ha
  have hl : Array.replicate ops.size false = listedTo ops.size (π.take 0) := by
    apply Array.ext
    · simp [listedTo]
    · intro j h1 h2; simp [listedTo]
  have h' := h hS a ha (by
    rw [← hl]
    intro j o _ hj
    rcases Nat.lt_or_ge j ops.size with h' | h'
    · simp [h'] at hj
    · simp [Array.getElem?_eq_none, h'] at hj)
  rw [hπ] at h'
  refine wp_mono (wp_region_any hm (wpAny_of_L (S := S) _ _ _ _ (by rw [hl]; exact h'))) ?_
  rintro e a' w' ⟨ρ', h1, h2⟩
  cases e with
  | normal => exact ⟨ρ', h1, h2⟩
  | _ => exact h2.elim
variable {i : Nat} {d : Nat} {op : Op} {ty : TypeId} {pos : String} {after : Array Edge} {g : Option (Nat × Bool)}
theorem dt_end (hd : doneOk ops π i = true) (h : K ρ w) : dops P N ops π S K i ρ w :=
  fun _ _ ha _ => wpAnyL_done (by simpa [doneOk] using hd) ⟨ρ, ha, h⟩ _
/-- An operation that yields in every world that meets the condition is taken. -/
theorem dt_take {v : Value} {oi : Oper} (hi : opAt ops π i = some oi) (hs : Region.noSelect ops = true) (ht : takeOk ops π i = true) (hdst : ∃ d, oi.dst = some d ∧ d < N) (hy : ∀ a, Ok N a ρ → YieldsIf P ops S oi v a)
    (next : ∀ d, oi.dst = some d → dops P N ops π S K (i + 1) (put ρ d v) w) : dops P N ops π S K i ρ w := by
  intro hS a ha hcl
  simp only [takeOk, Bool.and_eq_true] at ht
  obtain ⟨hlt, hi⟩ := opAt_some hi
  obtain ⟨d, hd, hdN⟩ := hdst
  have hn : π.length - i = (π.length - (i + 1)) + 1 := by omega
  rw [hn]
  have hrd : π.getD i 0 ∈ Region.ready .any ops (listedTo ops.size (π.take i)) := by simpa using ht.2
  refine wpAnyL_first (v := v) hi (Region.noSelect_spec hs) ?_ (fun j hj hne listed hc hr hr' => ?_) _ _ _ _ hcl (Region.free_spec hi ht.1) hrd (hy a ha) hS ?_
  · rintro c a w ⟨_, _, h⟩; exact h.elim
  · have h1 := sink_all hj hc hr (π.getD i 0) (by simp [hlt]) (Ne.symm hne)
    rw [ready_off hr'] at h1
    cases h1
  · rw [listed_next _ _ _ hlt, hd]; exact next d hd hS _ (ha.put hdN v) (by rw [← listed_next _ _ _ hlt]; exact hcl.step hrd)
theorem dt_rd {v : Value} (hi : opAt ops π i = some ⟨some d, op, ty, pos, after, g⟩) (hs : Region.noSelect ops = true) (ht : takeOk ops π i = true) (hd : d < N) (hg : Wants ops ρ g) (h : ∀ w', S w' → Rd P op ty ρ w' v)
    (next : dops P N ops π S K (i + 1) (put ρ d v) w) : dops P N ops π S K i ρ w := by
  refine dt_take (v := v) hi hs ht ⟨d, rfl, hd⟩ (fun a ha => .inl ⟨Wants.wanted ha hg, fun w' hw' => ?_⟩) (fun d' e => by injection e with e; subst e; exact next)
  rw [ha.eval]; exact (h w' hw').run _ _ _ _
theorem dt_skip {j t : Nat} {b : Bool} (hi : opAt ops π i = some ⟨some d, op, ty, pos, after, some (j, b)⟩) (hs : Region.noSelect ops = true) (ht : takeOk ops π i = true) (hd : d < N) (htt : (ops[j]?).bind (·.dst) = some t) (hb : get ρ t = .bool (!b))
    (next : dops P N ops π S K (i + 1) (put ρ d undef) w) : dops P N ops π S K i ρ w :=
  dt_take (v := undef) hi hs ht ⟨d, rfl, hd⟩ (fun a ha => .inr ⟨by simp [Region.wanted, yielded_eq ha htt hb], rfl⟩) (fun d' e => by injection e with e; subst e; exact next)
theorem dt_skipu {j t : Nat} {b : Bool} (hi : opAt ops π i = some ⟨some d, op, ty, pos, after, some (j, b)⟩) (hs : Region.noSelect ops = true) (ht : takeOk ops π i = true) (hd : d < N) (htt : (ops[j]?).bind (·.dst) = some t) (hb : get ρ t = undef)
    (next : dops P N ops π S K (i + 1) (put ρ d undef) w) : dops P N ops π S K i ρ w :=
  dt_take (v := undef) hi hs ht ⟨d, rfl, hd⟩ (fun a ha => .inr ⟨by simp [Region.wanted, yielded_undef ha htt hb], rfl⟩) (fun d' e => by injection e with e; subst e; exact next)
theorem nextOk_mem (hn : nextOk ops π i = true) : π.getD i 0 ∈ Region.ready .any ops (listedTo ops.size (π.take i)) := by
  unfold nextOk at hn
  rw [beq_iff_eq] at hn
  rw [hn]; exact List.mem_singleton_self _
theorem dt_step {o : Oper} (hi : opAt ops π i = some o) (hn : nextOk ops π i = true) (hg : Wants ops ρ o.guard)
    (h : S w → ∀ a, Ok N a ρ → o.wp P a w (fun a' w' => S w' ∧ ∃ ρ', Ok N a' ρ' ∧ (S w' → dops P N ops π S K (i + 1) ρ' w')) (liftQ N (onK K))) : dops P N ops π S K i ρ w := by
  intro hS a ha hcl
  obtain ⟨hlt, hi⟩ := opAt_some hi
  have hnn : π.length - i = (π.length - (i + 1)) + 1 := by omega
  rw [hnn]
  have hcl' := hcl.step (nextOk_mem hn)
  rw [listed_next _ _ _ hlt] at hcl'
  refine wpAnyL_all (rs := [π.getD i 0]) (by simpa only [nextOk, beq_iff_eq] using hn) (by simp) ?_
  intro j hj
  obtain rfl : j = π.getD i 0 := List.mem_singleton.1 hj
  unfold wpOp
  simp only [hi, Wants.wanted ha hg, if_true]
  refine .inl (Oper.wp_mono ?_ (h hS a ha))
  rintro a' w' ⟨hS', ρ', hok, hnx⟩
  exact ⟨fun _ => hS', by rw [listed_next _ _ _ hlt]; exact hnx hS' hS' _ hok hcl'⟩
/-- The last operation, which all others are waited for by: it need not keep the condition. -/
theorem dt_last {o : Oper} (hi : opAt ops π i = some o) (hn : nextOk ops π i = true) (hl : lastOf ops π = some (π.getD i 0)) (hd : doneOk ops π (i + 1) = true) (hg : Wants ops ρ o.guard)
    (h : ∀ a, Ok N a ρ → o.wp P a w (fun a' w' => ∃ ρ', Ok N a' ρ' ∧ K ρ' w') (liftQ N (onK K))) : dops P N ops π S K i ρ w := by
  intro hS a ha hcl
  obtain ⟨hlt, hi⟩ := opAt_some hi
  have hnn : π.length - i = (π.length - (i + 1)) + 1 := by omega
  rw [hnn]
  refine wpAnyL_all (rs := [π.getD i 0]) (by simpa only [nextOk, beq_iff_eq] using hn) (by simp) ?_
  intro j hj
  obtain rfl : j = π.getD i 0 := List.mem_singleton.1 hj
  unfold wpOp
  simp only [hi, Wants.wanted ha hg, if_true]
  refine .inl (Oper.wp_mono ?_ (h a ha))
  rintro a' w' ⟨ρ', hok, hK⟩
  exact ⟨fun hne => absurd hl hne, by rw [listed_next _ _ _ hlt]; exact wpAnyL_done (by simpa [doneOk] using hd) ⟨ρ', hok, hK⟩ _⟩
theorem dt_ex {v : Value} {w' : World} (hi : opAt ops π i = some ⟨some d, op, ty, pos, after, g⟩) (hn : nextOk ops π i = true) (hd : d < N) (hg : Wants ops ρ g) (h : Ex P op ty ρ w v w') (hS' : S w → S w')
    (next : dops P N ops π S K (i + 1) (put ρ d v) w') : dops P N ops π S K i ρ w := by
  refine dt_step hi hn hg fun hS a ha => ?_
  unfold Oper.wp
  rw [ha.eval, h.run]
  exact ⟨hS' hS, _, ha.put hd v, fun _ => next⟩
theorem dt_lastw {w' : World} (hi : opAt ops π i = some ⟨none, op, ty, pos, after, g⟩) (hn : nextOk ops π i = true) (hl : lastOf ops π = some (π.getD i 0)) (hd : doneOk ops π (i + 1) = true) (hg : Wants ops ρ g) (h : Wr P op ty ρ w w')
    (next : K ρ w') : dops P N ops π S K i ρ w := by
  refine dt_last hi hn hl hd hg fun a ha => ?_
  unfold Oper.wp
  rw [ha.eval, h.run]
  exact ⟨_, ha, next⟩
theorem dt_call {f : FuncId} {args : Array Value} {R : Value → World → Prop} (hi : opAt ops π i = some ⟨some d, op, ty, pos, after, g⟩) (hn : nextOk ops π i = true) (hd : d < N) (hg : Wants ops ρ g) (ho : Cl P op ty ρ f args)
    (hc : Calls P f args w (Ret R)) (next : ∀ v w', R v w' → (S w → S w') ∧ dops P N ops π S K (i + 1) (put ρ d v) w') : dops P N ops π S K i ρ w := by
  refine dt_step hi hn hg fun hS a ha => ?_
  unfold Oper.wp
  rw [ha.eval, ho.run w]
  refine Calls.mono hc fun e w' he => ?_
  cases e with
  | returned v => exact ⟨(next v w' he).1 hS, _, ha.put hd v, fun _ => (next v w' he).2⟩
  | panicked c => exact he.elim
  | outgrown => exact he.elim
end
attribute [irreducible] rwp rops dops thn inBlk loopQ forQ retQ
end Go.Pc

/-
  What a value reads as (slices of integers, slices of slices), how that is kept when memory grows, and one rule for each operation.
  Conditions: none; nothing of the program stands here.
-/
namespace Go.Pc
open Go Go.RowKit

/-! ### facts -/
abbrev nilv : Value := .slice none 0 0
/-- 'w'' is 'w' with new blocks; all that was there is as it was. -/
class Ext (w : outParam World) (w' : World) : Prop where
  below : Below w.heap.size w w'
/-- A slice value whose cells are 'us'; its block lies from lo on, below hi. -/
class Sl (lo hi : outParam Nat) (w : World) (v : Value) (us : outParam (List Value)) : Prop where
  ex : ∃ A c, v = .slice A us.length c ∧ us.length ≤ c ∧ c ≤ 9223372036854775807 ∧ ∀ k u, us[k]? = some u → ∃ a, A = some a ∧ lo ≤ a.block ∧ a.block < hi ∧ w.cell? (a.add k) = some u
class Ints (lo hi : outParam Nat) (w : World) (v : Value) (xs : outParam (List Int)) : Prop where
  sl : Sl lo hi w v (xs.map (Value.int .i64))
/-- The values 'us' read as the lists 'xss'. -/
class RowVals (lo hi : outParam Nat) (w : World) (us : List Value) (xss : outParam (List (List Int))) : Prop where
  len : us.length = xss.length
  at_ : ∀ i, Ints lo hi w (us.getD i nilv) (xss.getD i [])
class Rows (lo hi : outParam Nat) (w : World) (v : Value) (us : outParam (List Value)) (xss : outParam (List (List Int))) : Prop where
  sl : Sl lo hi w v us
  vals : RowVals lo hi w us xss
class RowssVals (lo hi : outParam Nat) (w : World) (us : List Value) (uss : outParam (List (List Value))) (xsss : outParam (List (List (List Int)))) : Prop where
  len : us.length = xsss.length
  len' : uss.length = xsss.length
  at_ : ∀ i, Rows lo hi w (us.getD i nilv) (uss.getD i []) (xsss.getD i [])
class Rowss (lo hi : outParam Nat) (w : World) (v : Value) (us : outParam (List Value)) (uss : outParam (List (List Value))) (xsss : outParam (List (List (List Int)))) : Prop where
  sl : Sl lo hi w v us
  vals : RowssVals lo hi w us uss xsss
/-- One cell of a block. -/
class Cell (w : World) (b off : Nat) (v : outParam Value) : Prop where
  eq : w.cell? ⟨b, off, none⟩ = some v
  lt : b < w.heap.size

/-- The two worlds agree on the blocks from lo on, below hi. -/
def Same (lo hi : Nat) (w w' : World) : Prop := ∀ b, lo ≤ b → b < hi → b < w.heap.size → w'.heap[b]? = w.heap[b]?

theorem Ext.refl (w : World) : Ext w w := ⟨Below.refl _ _⟩
theorem Ext.trans {a b c : World} (h : Ext a b) (k : Ext b c) : Ext a c := ⟨h.below.trans (k.below.mono h.below.size)⟩
theorem Ext.size {a b : World} (h : Ext a b) : a.heap.size ≤ b.heap.size := h.below.size
theorem Ext.same {a b : World} (h : Ext a b) (lo hi : Nat) : Same lo hi a b := fun k _ _ hk => h.below.block k hk
theorem Ext.alloc (w : World) (o : Obj) : Ext w (w.alloc o) := ⟨(Below.refl _ _).alloc (Nat.le_refl _) o⟩
theorem Ext.drew (w : World) : Ext w w.drew := ⟨(Below.refl _ _).drew⟩
theorem Ext.drew' (w : World) : Ext w { w with drawn := w.drawn + 1 } := ⟨(Below.refl _ _).drew⟩
theorem Same.mono {lo hi lo' hi' : Nat} {w w' : World} (h : Same lo hi w w') (h1 : lo ≤ lo') (h2 : hi' ≤ hi) : Same lo' hi' w w' :=
  fun b h3 h4 h5 => h b (by omega) (by omega) h5

theorem block_lt {w : World} {a : Addr} {v : Value} (h : w.cell? a = some v) : a.block < w.heap.size := World.block_lt_of_cell? w a h
theorem add_block (a : Addr) (n : Nat) : (a.add n).block = a.block := by unfold Addr.add; split <;> rfl

section
variable {lo hi : Nat} {w w' : World} {v : Value} {us : List Value} {uss : List (List Value)} {xs : List Int} {xss : List (List Int)} {xsss : List (List (List Int))}
theorem Sl.same (h : Sl lo hi w v us) (k : Same lo hi w w') : Sl lo hi w' v us := by
  obtain ⟨A, c, rfl, hc, hm, hcell⟩ := h.ex
  refine ⟨A, c, rfl, hc, hm, fun i u hu => ?_⟩
  obtain ⟨a, hA, h1, h2, h3⟩ := hcell i u hu
  refine ⟨a, hA, h1, h2, ?_⟩
  have hb := block_lt h3
  rw [add_block] at hb
  rw [World.cell?_of_block (w := w) (w' := w') (by rw [add_block]; exact k _ h1 h2 hb)]
  exact h3
theorem Ints.same (h : Ints lo hi w v xs) (k : Same lo hi w w') : Ints lo hi w' v xs := ⟨h.sl.same k⟩
theorem RowVals.same (h : RowVals lo hi w us xss) (k : Same lo hi w w') : RowVals lo hi w' us xss := ⟨h.len, fun i => (h.at_ i).same k⟩
theorem Rows.same (h : Rows lo hi w v us xss) (k : Same lo hi w w') : Rows lo hi w' v us xss := ⟨h.sl.same k, h.vals.same k⟩
theorem RowssVals.same (h : RowssVals lo hi w us uss xsss) (k : Same lo hi w w') : RowssVals lo hi w' us uss xsss := ⟨h.len, h.len', fun i => (h.at_ i).same k⟩
theorem Rowss.same (h : Rowss lo hi w v us uss xsss) (k : Same lo hi w w') : Rowss lo hi w' v us uss xsss := ⟨h.sl.same k, h.vals.same k⟩
theorem Cell.same {b off : Nat} {v : Value} (h : Cell w b off v) (k : Same b (b + 1) w w') (hs : w.heap.size ≤ w'.heap.size) : Cell w' b off v :=
  ⟨by rw [World.cell?_of_block (w := w) (w' := w') (k b (Nat.le_refl _) (by omega) h.lt)]; exact h.eq, by have := h.lt; omega⟩
end
section
variable {lo hi : Nat} {w w' : World} {v : Value} {us : List Value} {uss : List (List Value)} {xs : List Int} {xss : List (List Int)} {xsss : List (List (List Int))}
instance (priority := low) Sl.ext [e : Ext w w'] [h : Sl lo hi w v us] : Sl lo hi w' v us := h.same (e.same _ _)
instance (priority := low) Ints.ext [e : Ext w w'] [h : Ints lo hi w v xs] : Ints lo hi w' v xs := h.same (e.same _ _)
instance (priority := low) RowVals.ext [e : Ext w w'] [h : RowVals lo hi w us xss] : RowVals lo hi w' us xss := h.same (e.same _ _)
instance (priority := low) Rows.ext [e : Ext w w'] [h : Rows lo hi w v us xss] : Rows lo hi w' v us xss := h.same (e.same _ _)
instance (priority := low) RowssVals.ext [e : Ext w w'] [h : RowssVals lo hi w us uss xsss] : RowssVals lo hi w' us uss xsss := h.same (e.same _ _)
instance (priority := low) Rowss.ext [e : Ext w w'] [h : Rowss lo hi w v us uss xsss] : Rowss lo hi w' v us uss xsss := h.same (e.same _ _)
instance (priority := low) Cell.ext {b off : Nat} {v : Value} [e : Ext w w'] [h : Cell w b off v] : Cell w' b off v := h.same (e.same _ _) e.size
instance Rows.toSl [h : Rows lo hi w v us xss] : Sl lo hi w v us := h.sl
instance Rowss.toSl [h : Rowss lo hi w v us uss xsss] : Sl lo hi w v us := h.sl
/-- Row number i of the slice v, whose cells are us. -/
def rowAt (_v : Value) (us : List Value) (i : Nat) : Value := us.getD i nilv
instance RowVals.toInts [h : RowVals lo hi w us xss] (i : Nat) : Ints lo hi w (us.getD i nilv) (xss.getD i []) := h.at_ i
instance Rows.toInts [h : Rows lo hi w v us xss] (i : Nat) : Ints lo hi w (rowAt v us i) (xss.getD i []) := h.vals.at_ i
instance Rowss.toRows [h : Rowss lo hi w v us uss xsss] (i : Nat) : Rows lo hi w (rowAt v us i) (uss.getD i []) (xsss.getD i []) := h.vals.at_ i
end
/-- The number of elements of a slice. -/
class Len (w : World) (v : Value) (n : outParam Nat) : Prop where
  ex : ∃ A c, v = .slice A n c ∧ n ≤ c ∧ c ≤ 9223372036854775807 ∧ (0 < n → ∃ a, A = some a)
theorem Sl.toLen {lo hi : Nat} {w : World} {v : Value} {us : List Value} (h : Sl lo hi w v us) : Len w v us.length := by
  obtain ⟨A, c, rfl, hc, hm, hcell⟩ := h.ex
  refine ⟨A, c, rfl, hc, hm, fun hp => ?_⟩
  obtain ⟨a, hA, _⟩ := hcell 0 us[0] (List.getElem?_eq_getElem hp)
  exact ⟨a, hA⟩
instance Ints.toLen {lo hi : Nat} {w : World} {v : Value} {xs : List Int} [h : Ints lo hi w v xs] : Len w v xs.length := by have := h.sl.toLen; simpa using this
instance Rows.toLen {lo hi : Nat} {w : World} {v : Value} {us : List Value} {xss : List (List Int)} [h : Rows lo hi w v us xss] : Len w v xss.length := by have := h.sl.toLen; rw [h.vals.len] at this; exact this
instance Rowss.toLen {lo hi : Nat} {w : World} {v : Value} {us : List Value} {uss : List (List Value)} {xsss : List (List (List Int))} [h : Rowss lo hi w v us uss xsss] : Len w v xsss.length := by have := h.sl.toLen; rw [h.vals.len] at this; exact this

instance (priority := low) Len.ext {w w' : World} {v : Value} {n : Nat} [Ext w w'] [h : Len w v n] : Len w' v n := ⟨h.ex⟩

/-! ### numbers -/
class Cst (k : Int) (m : outParam Nat) : Prop where eq : k = (m : Int)
instance (m : Nat) : Cst (m : Int) m := ⟨rfl⟩
instance (m : Nat) : Cst (OfNat.ofNat m) m := ⟨rfl⟩
instance : Cst 0 0 := ⟨rfl⟩
instance : Cst 1 1 := ⟨rfl⟩
instance {a b : Int} {x y : Nat} [h : Cst a x] [k : Cst b y] : Cst (a + b) (x + y) := ⟨by rw [h.eq, k.eq]; rfl⟩
class NatOf (k : Int) (m : outParam Nat) : Prop where eq : k.toNat = m
instance {k : Int} {m : Nat} [h : Cst k m] : NatOf k m := ⟨by rw [h.eq]; rfl⟩
instance (priority := low) {a b : Int} {x y : Nat} [h : NatOf a x] [k : Cst b y] : NatOf (a - b) (x - y) := ⟨by have := h.eq; have := k.eq; omega⟩
instance (priority := 10) (k : Int) : NatOf k k.toNat := ⟨rfl⟩

/-! ### types -/
class SlT (P : Program) (t : TypeId) (e : outParam TypeId) : Prop where eq : P.underlying t = some (.slice e)
class ElT (P : Program) (e : TypeId) (size bytes : outParam Nat) (z : outParam Value) : Prop where
  ex : ∃ i, P.info? e = some i ∧ i.size = size ∧ i.bytes = bytes ∧ i.zero = some z
class PlainT (P : Program) (t : TypeId) : Prop where
  ex : ∃ d, P.underlying t = some d ∧ (∀ f, d ≠ .struct f) ∧ (∀ n e, d ≠ .array n e)
class StructT (P : Program) (t : TypeId) (size : outParam Nat) : Prop where
  ex : ∃ fs i, P.underlying t = some (.struct fs) ∧ P.info? t = some i ∧ i.size = size
class FldT (P : Program) (s : TypeId) (f : Nat) (off : outParam Nat) : Prop where
  ex : ∃ fs fd i, P.underlying s = some (.struct fs) ∧ fs[f]? = some fd ∧ fd.offset = off ∧ P.info? fd.type = some i ∧ i.size ≠ 0

/-! ### operations that only read -/
section
variable {P : Program} {ρ : Env} {w : World} {ty : TypeId}
theorem rd_move {x : Operand} {v : Value} (h : ev ρ x = v) : Rd P (.move x) ty ρ w v := ⟨fun _ _ _ _ => by simp [execOp, h]⟩
theorem rd_assign {x : Operand} {v : Value} (h : ev ρ x = v) : Rd P (.assign x) ty ρ w v := ⟨fun _ _ _ _ => by simp [execOp, h]⟩

theorem rd_len {x : Operand} {v : Value} {t e n : Nat} (h : ev ρ x = v) [ht : SlT P t e] [hl : Len w v n] : Rd P (.call { callee := .builtin .len, args := #[x], argTypes := #[t] }) ty ρ w (.int .i64 n) := by
  obtain ⟨A, c, rfl, hc, hm, _⟩ := hl.ex
  have hw : IntKind.i64.wrap n = n := IntWalk.i64_in _ (by omega)
  constructor; intro _ _ _ _
  simp [execOp, resolve, invoke, builtin, h, Builtin.len_, run_underlying ht.eq, goInt]
def eptr (v : Value) (n : Nat) : Value := match v with | .slice (some a) _ _ => .pointer (some (a.add n)) | _ => undef
theorem rd_index {x ix : Operand} {v : Value} {k : Int} {t e n m bytes : Nat} {z : Value} (h : ev ρ x = v) (hk : ev ρ ix = .int .i64 k) [ht : SlT P t e] [he : ElT P e 1 bytes z] [hl : Len w v n] [hm : NatOf k m]
    (h0 : 0 ≤ k) (h1 : k < n) : Rd P (.indexAddr t x ix) ty ρ w (eptr v m) := by
  obtain ⟨A, c, rfl, hc, _, hA⟩ := hl.ex
  obtain ⟨a, rfl⟩ := hA (by omega)
  obtain ⟨i, hi, hs, _, _⟩ := he.ex
  constructor; intro _ _ _ _
  have hm' := hm.eq
  simp [execOp, h, hk, Instr.indexAt, asIntOf, run_underlying ht.eq, h0, h1, sizeOf, typeInfo, hi, hs, hm', eptr]
theorem run_load_plain {t : TypeId} [hp : PlainT P t] {a : Addr} {v : Value} (hc : w.cell? a = some v) : (loadVar t a).run P w = .ok v w := by
  obtain ⟨d, hd, h1, h2⟩ := hp.ex
  have : (isAgg t).run P w = .ok false w := by
    simp only [isAgg, Sem.run_bind, run_underlying hd, Result.andThen_ok]
    cases d <;> simp_all
  simp [loadVar, this, hc]
theorem rd_load_ints {x : Operand} {v : Value} {t lo hi m : Nat} {xs : List Int} (h : ev ρ x = eptr v m) [hp : PlainT P t] [hx : Ints lo hi w v xs] (hm : m < xs.length) : Rd P (.load t x) ty ρ w (.int .i64 (xs.getD m 0)) := by
  obtain ⟨A, c, rfl, hc, _, hcell⟩ := hx.sl.ex
  obtain ⟨a, rfl, _, _, hcl⟩ := hcell m (.int .i64 xs[m]) (by simp [hm])
  constructor; intro _ _ _ _
  simp [execOp, h, eptr, Instr.loadAt, Instr.sureAddr, run_load_plain hcl, hm]
theorem rd_load_rows {x : Operand} {v : Value} {t lo hi m : Nat} {us : List Value} {xss : List (List Int)} (h : ev ρ x = eptr v m) [hp : PlainT P t] [hx : Rows lo hi w v us xss] (hm : m < xss.length) : Rd P (.load t x) ty ρ w (rowAt v us m) := by
  obtain ⟨A, c, rfl, hc, _, hcell⟩ := hx.sl.ex
  have hm' : m < us.length := by rw [hx.vals.len]; exact hm
  obtain ⟨a, rfl, _, _, hcl⟩ := hcell m us[m] (by simp [hm'])
  constructor; intro _ _ _ _
  simp [execOp, h, eptr, Instr.loadAt, Instr.sureAddr, run_load_plain hcl, hm', rowAt]
theorem rd_load_sl {x : Operand} {v : Value} {t lo hi m : Nat} {us : List Value} (h : ev ρ x = eptr v m) [hp : PlainT P t] [hx : Sl lo hi w v us] (hm : m < us.length) : Rd P (.load t x) ty ρ w (rowAt v us m) := by
  obtain ⟨A, c, rfl, hc, _, hcell⟩ := hx.ex
  obtain ⟨a, rfl, _, _, hcl⟩ := hcell m us[m] (by simp [hm])
  constructor; intro _ _ _ _
  simp [execOp, h, eptr, Instr.loadAt, Instr.sureAddr, run_load_plain hcl, hm, rowAt]
theorem rd_load_rowss {x : Operand} {v : Value} {t lo hi m : Nat} {us : List Value} {uss : List (List Value)} {xsss : List (List (List Int))} (h : ev ρ x = eptr v m) [hp : PlainT P t] [hx : Rowss lo hi w v us uss xsss] (hm : m < xsss.length) : Rd P (.load t x) ty ρ w (rowAt v us m) := by
  obtain ⟨A, c, rfl, hc, _, hcell⟩ := hx.sl.ex
  have hm' : m < us.length := by rw [hx.vals.len]; exact hm
  obtain ⟨a, rfl, _, _, hcl⟩ := hcell m us[m] (by simp [hm'])
  constructor; intro _ _ _ _
  simp [execOp, h, eptr, Instr.loadAt, Instr.sureAddr, run_load_plain hcl, hm', rowAt]
theorem rd_load_cell {x : Operand} {b off t : Nat} {v : Value} (h : ev ρ x = .pointer (some ⟨b, off, none⟩)) [hp : PlainT P t] [hx : Cell w b off v] : Rd P (.load t x) ty ρ w v := by
  constructor; intro _ _ _ _
  simp [execOp, h, Instr.loadAt, Instr.sureAddr, run_load_plain hx.eq]
theorem rd_load_agg3 {x : Operand} {b t : Nat} {v0 v1 v2 : Value} (h : ev ρ x = .pointer (some ⟨b, 0, none⟩)) [hp : StructT P t 3] [h0 : Cell w b 0 v0] [h1 : Cell w b 1 v1] [h2 : Cell w b 2 v2] : Rd P (.load t x) ty ρ w (.agg #[v0, v1, v2]) := by
  constructor; intro _ _ _ _
  obtain ⟨fs, i, hu, hi, hs⟩ := hp.ex
  have e0 := h0.eq
  have e1 := h1.eq
  have e2 := h2.eq
  simp [execOp, h, Instr.loadAt, Instr.sureAddr, loadVar, isAgg, run_underlying hu, sizeOf, typeInfo, hi, hs, loadCells, loadCellsFrom, Addr.add, e0, e1, e2]
theorem rd_field {x : Operand} {b s f off : Nat} (h : ev ρ x = .pointer (some ⟨b, 0, none⟩)) [hf : FldT P s f off] : Rd P (.fieldAddr s x f) ty ρ w (.pointer (some ⟨b, off, none⟩)) := by
  constructor; intro _ _ _ _
  obtain ⟨fs, fd, i, hu, hfs, ho, hi, hs⟩ := hf.ex
  have hadd : (Addr.mk b 0 none).add off = ⟨b, off, none⟩ := by unfold Addr.add; split <;> simp_all
  simp [execOp, h, Instr.fieldAt, Instr.sureAddr, run_underlying hu, hfs, fieldPlace, sizeOf, typeInfo, hi, hs, ho, hadd]
theorem addr_add {b o k : Nat} : (Addr.mk b o none).add k = ⟨b, o + k, none⟩ := by unfold Addr.add; split <;> simp_all
theorem rd_load_agg3o {x : Operand} {b o t : Nat} {v0 v1 v2 : Value} (h : ev ρ x = .pointer (some ⟨b, o, none⟩)) [hp : StructT P t 3] [h0 : Cell w b o v0] [h1 : Cell w b (o + 1) v1] [h2 : Cell w b (o + 2) v2] : Rd P (.load t x) ty ρ w (.agg #[v0, v1, v2]) := by
  constructor; intro _ _ _ _
  obtain ⟨fs, i, hu, hi, hs⟩ := hp.ex
  have e0 := h0.eq
  have e1 := h1.eq
  have e2 := h2.eq
  simp [execOp, h, Instr.loadAt, Instr.sureAddr, loadVar, isAgg, run_underlying hu, sizeOf, typeInfo, hi, hs, loadCells, loadCellsFrom, addr_add, e0, e1, e2]
theorem rd_load_agg7 {x : Operand} {b t : Nat} {v0 v1 v2 v3 v4 v5 v6 : Value} (h : ev ρ x = .pointer (some ⟨b, 0, none⟩)) [hp : StructT P t 7] [h0 : Cell w b 0 v0] [h1 : Cell w b 1 v1] [h2 : Cell w b 2 v2] [h3 : Cell w b 3 v3] [h4 : Cell w b 4 v4] [h5 : Cell w b 5 v5] [h6 : Cell w b 6 v6] : Rd P (.load t x) ty ρ w (.agg #[v0, v1, v2, v3, v4, v5, v6]) := by
  constructor; intro _ _ _ _
  obtain ⟨fs, i, hu, hi, hs⟩ := hp.ex
  have e0 := h0.eq
  have e1 := h1.eq
  have e2 := h2.eq
  have e3 := h3.eq
  have e4 := h4.eq
  have e5 := h5.eq
  have e6 := h6.eq
  simp [execOp, h, Instr.loadAt, Instr.sureAddr, loadVar, isAgg, run_underlying hu, sizeOf, typeInfo, hi, hs, loadCells, loadCellsFrom, addr_add, e0, e1, e2, e3, e4, e5, e6]
theorem rd_fieldo0 {x : Operand} {b o s f : Nat} (h : ev ρ x = .pointer (some ⟨b, o, none⟩)) [hf : FldT P s f 0] : Rd P (.fieldAddr s x f) ty ρ w (.pointer (some ⟨b, o, none⟩)) := by
  constructor; intro _ _ _ _
  obtain ⟨fs, fd, i, hu, hfs, ho, hi, hs⟩ := hf.ex
  simp [execOp, h, Instr.fieldAt, Instr.sureAddr, run_underlying hu, hfs, fieldPlace, sizeOf, typeInfo, hi, hs, ho, addr_add]
theorem rd_fieldo {x : Operand} {b o s f off : Nat} (h : ev ρ x = .pointer (some ⟨b, o, none⟩)) [hf : FldT P s f off] : Rd P (.fieldAddr s x f) ty ρ w (.pointer (some ⟨b, o + off, none⟩)) := by
  constructor; intro _ _ _ _
  obtain ⟨fs, fd, i, hu, hfs, ho, hi, hs⟩ := hf.ex
  simp [execOp, h, Instr.fieldAt, Instr.sureAddr, run_underlying hu, hfs, fieldPlace, sizeOf, typeInfo, hi, hs, ho, addr_add]
theorem rd_nilCheck {x : Operand} {a : Addr} (h : ev ρ x = .pointer (some a)) : Rd P (.nilCheck x) ty ρ w (.pointer (some a)) := by
  constructor; intro _ _ _ _; simp [execOp, h]
theorem rd_add {x y : Operand} {a b : Int} {tx tyy : TypeId} (h : ev ρ x = .int .i64 a) (k : ev ρ y = .int .i64 b) (hb : -9223372036854775808 ≤ a + b ∧ a + b ≤ 9223372036854775807) : Rd P (.binOp .add tx x y tyy) ty ρ w (.int .i64 (a + b)) := by
  constructor; intro _ _ _ _; simp [execOp, h, k, binOp, Op.intArith, eqGuard, IntWalk.i64_in _ hb]
theorem rd_sub {x y : Operand} {a b : Int} {tx tyy : TypeId} (h : ev ρ x = .int .i64 a) (k : ev ρ y = .int .i64 b) (hb : -9223372036854775808 ≤ a - b ∧ a - b ≤ 9223372036854775807) : Rd P (.binOp .sub tx x y tyy) ty ρ w (.int .i64 (a - b)) := by
  constructor; intro _ _ _ _; simp [execOp, h, k, binOp, Op.intArith, eqGuard, IntWalk.i64_in _ hb]
theorem rd_mul {x y : Operand} {a b : Int} {tx tyy : TypeId} (h : ev ρ x = .int .i64 a) (k : ev ρ y = .int .i64 b) (hb : -9223372036854775808 ≤ a * b ∧ a * b ≤ 9223372036854775807) : Rd P (.binOp .mul tx x y tyy) ty ρ w (.int .i64 (a * b)) := by
  constructor; intro _ _ _ _; simp [execOp, h, k, binOp, Op.intArith, eqGuard, IntWalk.i64_in _ hb]
theorem rd_quo {x y : Operand} {a b : Int} {tx tyy : TypeId} (h : ev ρ x = .int .i64 a) (k : ev ρ y = .int .i64 b) (hb : 0 ≤ a ∧ a ≤ 9223372036854775807 ∧ 1 ≤ b) : Rd P (.binOp .quo tx x y tyy) ty ρ w (.int .i64 (a / b)) := by
  have : b ≠ 0 := by omega
  constructor; intro _ _ _ _; simp [execOp, h, k, binOp, Op.intDiv, eqGuard, this, IntWalk.i64_quo _ _ hb]
theorem rd_rem {x y : Operand} {a b : Int} {tx tyy : TypeId} (h : ev ρ x = .int .i64 a) (k : ev ρ y = .int .i64 b) (hb : 0 ≤ a ∧ 1 ≤ b) : Rd P (.binOp .rem tx x y tyy) ty ρ w (.int .i64 (a % b)) := by
  have : b ≠ 0 := by omega
  constructor; intro _ _ _ _; simp [execOp, h, k, binOp, Op.intDiv, eqGuard, this, IntWalk.rem_in _ _ hb.1]
theorem rd_lss {x y : Operand} {a b : Int} {tx tyy : TypeId} (h : ev ρ x = .int .i64 a) (k : ev ρ y = .int .i64 b) : Rd P (.binOp .lss tx x y tyy) ty ρ w (.bool (decide (a < b))) := by
  constructor; intro _ _ _ _; simp [execOp, h, k, binOp, Op.intCmp, eqGuard]
theorem rd_leq {x y : Operand} {a b : Int} {tx tyy : TypeId} (h : ev ρ x = .int .i64 a) (k : ev ρ y = .int .i64 b) : Rd P (.binOp .leq tx x y tyy) ty ρ w (.bool (decide (a ≤ b))) := by
  constructor; intro _ _ _ _; simp [execOp, h, k, binOp, Op.intCmp, eqGuard]
theorem rd_gtr {x y : Operand} {a b : Int} {tx tyy : TypeId} (h : ev ρ x = .int .i64 a) (k : ev ρ y = .int .i64 b) : Rd P (.binOp .gtr tx x y tyy) ty ρ w (.bool (decide (b < a))) := by
  constructor; intro _ _ _ _; simp [execOp, h, k, binOp, Op.intCmp, eqGuard]
theorem rd_geq {x y : Operand} {a b : Int} {tx tyy : TypeId} (h : ev ρ x = .int .i64 a) (k : ev ρ y = .int .i64 b) : Rd P (.binOp .geq tx x y tyy) ty ρ w (.bool (decide (b ≤ a))) := by
  constructor; intro _ _ _ _; simp [execOp, h, k, binOp, Op.intCmp, eqGuard]
theorem rd_eql {x y : Operand} {a b : Int} {tx tyy : TypeId} (h : ev ρ x = .int .i64 a) (k : ev ρ y = .int .i64 b) : Rd P (.binOp .eql tx x y tyy) ty ρ w (.bool (decide (a = b))) := by
  constructor; intro _ _ _ _; simp [execOp, h, k, binOp, Op.intCmp, eqGuard]; rfl
theorem rd_neq {x y : Operand} {a b : Int} {tx tyy : TypeId} (h : ev ρ x = .int .i64 a) (k : ev ρ y = .int .i64 b) : Rd P (.binOp .neq tx x y tyy) ty ρ w (.bool (decide (a ≠ b))) := by
  constructor; intro _ _ _ _; simp [execOp, h, k, binOp, Op.intCmp, eqGuard, bne]; rfl
theorem rd_not {x : Operand} {b : Bool} {tx : TypeId} (h : ev ρ x = .bool b) : Rd P (.unOp .not tx x) ty ρ w (.bool (!b)) := by
  constructor; intro _ _ _ _; simp [execOp, h, Op.unary]
theorem rd_neg {x : Operand} {a : Int} {tx : TypeId} (h : ev ρ x = .int .i64 a) (hb : -9223372036854775807 ≤ a ∧ a ≤ 9223372036854775807) : Rd P (.unOp .neg tx x) ty ρ w (.int .i64 (-a)) := by
  have := IntWalk.i64_in (-a) (by omega)
  constructor; intro _ _ _ _; simp [execOp, h, Op.unary, Op.intArith, this]
theorem rd_pick_t {c x y : Operand} {v : Value} (h : ev ρ c = .bool true) (hx : ev ρ x = v) : Rd P (.pick c x y) ty ρ w v := by
  constructor; intro _ _ _ _; simp [execOp, h, asBool, hx]
theorem rd_pick_f {c x y : Operand} {v : Value} (h : ev ρ c = .bool false) (hx : ev ρ y = v) : Rd P (.pick c x y) ty ρ w v := by
  constructor; intro _ _ _ _; simp [execOp, h, asBool, hx]
theorem rd_ext2a {x : Operand} {v0 v1 : Value} (h : ev ρ x = .tuple #[v0, v1]) : Rd P (.extract x 0) ty ρ w v0 := by
  constructor; intro _ _ _ _; simp [execOp, h, Instr.extract]
theorem rd_ext2b {x : Operand} {v0 v1 : Value} (h : ev ρ x = .tuple #[v0, v1]) : Rd P (.extract x 1) ty ρ w v1 := by
  constructor; intro _ _ _ _; simp [execOp, h, Instr.extract]
theorem rd_ext3a {x : Operand} {v0 v1 v2 : Value} (h : ev ρ x = .tuple #[v0, v1, v2]) : Rd P (.extract x 0) ty ρ w v0 := by
  constructor; intro _ _ _ _; simp [execOp, h, Instr.extract]
theorem rd_ext3b {x : Operand} {v0 v1 v2 : Value} (h : ev ρ x = .tuple #[v0, v1, v2]) : Rd P (.extract x 1) ty ρ w v1 := by
  constructor; intro _ _ _ _; simp [execOp, h, Instr.extract]
theorem rd_ext3c {x : Operand} {v0 v1 v2 : Value} (h : ev ρ x = .tuple #[v0, v1, v2]) : Rd P (.extract x 2) ty ρ w v2 := by
  constructor; intro _ _ _ _; simp [execOp, h, Instr.extract]
theorem rd_ext4a {x : Operand} {v0 v1 v2 v3 : Value} (h : ev ρ x = .tuple #[v0, v1, v2, v3]) : Rd P (.extract x 0) ty ρ w v0 := by
  constructor; intro _ _ _ _; simp [execOp, h, Instr.extract]
theorem rd_ext4b {x : Operand} {v0 v1 v2 v3 : Value} (h : ev ρ x = .tuple #[v0, v1, v2, v3]) : Rd P (.extract x 1) ty ρ w v1 := by
  constructor; intro _ _ _ _; simp [execOp, h, Instr.extract]
theorem rd_ext4c {x : Operand} {v0 v1 v2 v3 : Value} (h : ev ρ x = .tuple #[v0, v1, v2, v3]) : Rd P (.extract x 2) ty ρ w v2 := by
  constructor; intro _ _ _ _; simp [execOp, h, Instr.extract]
theorem rd_ext4d {x : Operand} {v0 v1 v2 v3 : Value} (h : ev ρ x = .tuple #[v0, v1, v2, v3]) : Rd P (.extract x 3) ty ρ w v3 := by
  constructor; intro _ _ _ _; simp [execOp, h, Instr.extract]
/-! comparison with nil -/
class NilB (v : Value) (b : outParam Bool) : Prop where
  ex : ∃ A n c, v = .slice A n c ∧ A.isNone = b
instance : NilB nilv true := ⟨⟨none, 0, 0, rfl, rfl⟩⟩
theorem NilB.of {lo hi : Nat} {v : Value} {us : List Value} (h : Sl lo hi w v us) (hn : 0 < us.length) : NilB v false := by
  obtain ⟨A, c, rfl, hc, hm, hcell⟩ := h.ex
  obtain ⟨a, rfl, _⟩ := hcell 0 us[0] (List.getElem?_eq_getElem hn)
  exact ⟨_, _, _, rfl, rfl⟩
theorem rd_eqnil {x : Operand} {v : Value} {b : Bool} {t e : TypeId} {tyy : TypeId} (h : ev ρ x = v) [ht : SlT P t e] [hb : NilB v b] : Rd P (.binOp .eql t x (.const (.slice none 0 0)) tyy) ty ρ w (.bool b) := by
  obtain ⟨A, n, c, rfl, hA⟩ := hb.ex
  subst hA
  have hu := ht.eq
  constructor; intro _ _ _ _
  simp [execOp, h, ev_const, eqGuard, binOp, run_equal_slice_nil w t e A n c hu]
theorem rd_neqnil {x : Operand} {v : Value} {b : Bool} {t e : TypeId} {tyy : TypeId} (h : ev ρ x = v) [ht : SlT P t e] [hb : NilB v b] : Rd P (.binOp .neq t x (.const (.slice none 0 0)) tyy) ty ρ w (.bool (!b)) := by
  obtain ⟨A, n, c, rfl, hA⟩ := hb.ex
  subst hA
  have hu := ht.eq
  constructor; intro _ _ _ _
  simp [execOp, h, ev_const, eqGuard, binOp, run_equal_slice_nil w t e A n c hu]
theorem rd_neqnil_t {x : Operand} {v : Value} {t e : TypeId} {tyy : TypeId} (h : ev ρ x = v) [ht : SlT P t e] [hb : NilB v false] : Rd P (.binOp .neq t x (.const (.slice none 0 0)) tyy) ty ρ w (.bool true) := rd_neqnil h
theorem rd_neqnil_f {x : Operand} {v : Value} {t e : TypeId} {tyy : TypeId} (h : ev ρ x = v) [ht : SlT P t e] [hb : NilB v true] : Rd P (.binOp .neq t x (.const (.slice none 0 0)) tyy) ty ρ w (.bool false) := rd_neqnil h
/-! slices cut out of slices -/
/-- The first m elements. -/
def cutTo (v : Value) (m : Nat) : Value := match v with | .slice a _ c => .slice a m c | v => v
/-- The elements from l on, below h. -/
def cut (v : Value) (l h : Nat) : Value := match v with | .slice a _ c => sliced a l h c 1 | v => v
theorem elem_eq {t e : TypeId} (h : P.underlying t = some (.slice e)) : P.elem t = e := by simp [Program.elem, h]
theorem run_sl {t e bytes : Nat} {z : Value} (ht : SlT P t e) (he : ElT P e 1 bytes z) {a : Option Addr} {n c : Nat} {lo hi : Option Value} {l h : Nat}
    (hr : (Instr.slice t (.slice a n c) lo hi none).run P w = ((sizeOf (P.elem t)).run P w).andThen fun s w => .ok (sliced a l h c s) w) : (Instr.sliceAt t (.slice a n c) lo hi none).run P w = .ok (cut (.slice a n c) l h) w := by
  obtain ⟨i, hi', hs, _, _⟩ := he.ex
  have ht' := ht.eq
  have hel : P.elem t = e := elem_eq ht'
  rw [run_sliceAt_slice w t _ _ _ _ (by rw [hel]; exact ht'), hr, hel]
  simp [sizeOf, typeInfo, hi', hs, cut]
theorem rd_slice_l {t e bytes n m : Nat} {x y : Operand} {v z : Value} {k : Int} (h : ev ρ x = v) (hk : ev ρ y = .int .i64 k) [ht : SlT P t e] [he : ElT P e 1 bytes z] [hl : Len w v n] [hm : NatOf k m] (h0 : 0 ≤ k) (h1 : k ≤ n) :
    Rd P (.slice t x (some y) none none) ty ρ w (cut v m n) := by
  obtain ⟨A, c, rfl, hc, _, _⟩ := hl.ex
  have hm' := hm.eq
  subst hm'
  have hr := run_sl (w := w) ht he (run_slice_l (P := P) w t A n c (by rw [elem_eq ht.eq]; exact ht.eq) .i64 k h0 h1)
  constructor; intro _ _ _ _
  simp [execOp, h, hk, hr]
theorem rd_slice_h {t e bytes n m : Nat} {x y : Operand} {v z : Value} {k : Int} (h : ev ρ x = v) (hk : ev ρ y = .int .i64 k) [ht : SlT P t e] [he : ElT P e 1 bytes z] [hl : Len w v n] [hm : NatOf k m] (h0 : 0 ≤ k) (h1 : k ≤ n) :
    Rd P (.slice t x none (some y) none) ty ρ w (cutTo v m) := by
  obtain ⟨A, c, rfl, hc, _, _⟩ := hl.ex
  have hm' := hm.eq
  subst hm'
  have hr := run_sl (w := w) ht he (run_slice_h (P := P) w t A n c (by rw [elem_eq ht.eq]; exact ht.eq) .i64 k h0 (by omega))
  have hc : cut (.slice A n c) 0 k.toNat = cutTo (.slice A n c) k.toNat := by
    unfold cut cutTo sliced
    by_cases hc : c = 0
    · simp [hc]
    · cases A <;> simp [hc, Addr.add_zero']
  rw [hc] at hr
  constructor; intro _ _ _ _
  simp [execOp, h, hk, hr]
theorem rd_slice_lh {t e bytes n m q : Nat} {x y u : Operand} {v z : Value} {k j : Int} (h : ev ρ x = v) (hk : ev ρ y = .int .i64 k) (hj : ev ρ u = .int .i64 j) [ht : SlT P t e] [he : ElT P e 1 bytes z] [hl : Len w v n] [hm : NatOf k m] [hq : NatOf j q] (h0 : 0 ≤ k) (h1 : k ≤ j) (h2 : j ≤ n) :
    Rd P (.slice t x (some y) (some u) none) ty ρ w (cut v m q) := by
  obtain ⟨A, c, rfl, hc, _, _⟩ := hl.ex
  have hm' := hm.eq
  have hq' := hq.eq
  subst hm' hq'
  have hr := run_sl (w := w) ht he (run_slice_lh (P := P) w t A n c (by rw [elem_eq ht.eq]; exact ht.eq) .i64 .i64 k j h0 h1 (by omega))
  constructor; intro _ _ _ _
  simp [execOp, h, hk, hj, hr]
/-! calls -/
/-- A function that the program bears with a body. -/
class FnT (P : Program) (f : FuncId) : Prop where
  ex : ∃ fn c, P.funcs[f]? = some fn ∧ fn.body = some c ∧ fn.name ≠ "runtime.NumGoroutine"
theorem cl_func {f : FuncId} {xs : Array Operand} {ats : Array TypeId} {args : Array Value} [hf : FnT P f] (ha : xs.map (ev ρ) = args) :
    Cl P (.call { callee := .value (.func f), args := xs, argTypes := ats }) ty ρ f args := by
  constructor; intro w _ _ _ _
  obtain ⟨fn, c, h1, h2, h3⟩ := hf.ex
  simp [execOp, resolve, ev_func, Deferred.ofValue, invoke, callFunc, h1, h2, h3, ha]
end

/-! a call of a function value -/
section
variable {P : Program} {ρ : Env} {ty : TypeId}
theorem cl_fval {f : FuncId} {x : Operand} {xs : Array Operand} {ats : Array TypeId} {args : Array Value} [hf : FnT P f] (hx : ev ρ x = .func (.func f) #[] #[]) (ha : xs.map (ev ρ) = args) :
    Cl P (.call { callee := .value x, args := xs, argTypes := ats }) ty ρ f args := by
  constructor; intro w _ _ _ _
  obtain ⟨fn, c, h1, h2, h3⟩ := hf.ex
  simp [execOp, resolve, hx, Deferred.ofValue, invoke, callFunc, h1, h2, h3, ha]
end
/-! ### memory of the call's own -/
/-- v is a slice over the whole block b, of which the first cells hold us; nobody else has it. -/
class Own (e : outParam TypeId) (b : outParam Nat) (w : World) (v : Value) (us : outParam (List Value)) : Prop where
  ex : ∃ cap cur, v = .slice (some ⟨b, 0, none⟩) us.length cap ∧ w.heap[b]? = some (.cells cur e (0, 0)) ∧ us.length ≤ cap ∧ cap ≤ maxLen ∧ cur.size = cap ∧ cur.toList.take us.length = us
class OwnI (e : outParam TypeId) (b : outParam Nat) (w : World) (v : Value) (xs : outParam (List Int)) : Prop where
  own : Own e b w v (xs.map (Value.int .i64))
/-- Nothing but block b (and what is new) has turned. -/
class Chg (b : outParam Nat) (w : outParam World) (w' : World) : Prop where
  by_ : w.grownBy w' (some b)
class Apart (lo hi b : Nat) : Prop where
  out : b < lo ∨ hi ≤ b

section
variable {e b lo hi : Nat} {w w' : World} {v : Value} {us : List Value} {xs : List Int} {xss : List (List Int)} {uss : List (List Value)} {xsss : List (List (List Int))}
theorem Chg.same (h : Chg b w w') (k : b < lo ∨ hi ≤ b) : Same lo hi w w' := fun i h1 h2 h3 => h.by_.block i h3 (by simp; omega)
theorem Chg.size (h : Chg b w w') : w.heap.size ≤ w'.heap.size := h.by_.size
theorem Chg.ext {w0 : World} (h : Chg b w w') (k : Ext w0 w) (hb : w0.heap.size ≤ b) : Ext w0 w' :=
  ⟨k.below.grown h.by_ k.below.size (fun i hi => by injection hi; omega)⟩
instance (priority := low) Ints.chg [c : Chg b w w'] [h : Ints lo hi w v xs] [a : Apart lo hi b] : Ints lo hi w' v xs := h.same (c.same a.out)
instance (priority := low) Rows.chg [c : Chg b w w'] [h : Rows lo hi w v us xss] [a : Apart lo hi b] : Rows lo hi w' v us xss := h.same (c.same a.out)
instance (priority := low) RowVals.chg [c : Chg b w w'] [h : RowVals lo hi w us xss] [a : Apart lo hi b] : RowVals lo hi w' us xss := h.same (c.same a.out)
instance (priority := low) Rowss.chg [c : Chg b w w'] [h : Rowss lo hi w v us uss xsss] [a : Apart lo hi b] : Rowss lo hi w' v us uss xsss := h.same (c.same a.out)
instance (priority := low) Sl.chg [c : Chg b w w'] [h : Sl lo hi w v us] [a : Apart lo hi b] : Sl lo hi w' v us := h.same (c.same a.out)
instance (priority := low) Cell.chg {g off : Nat} [c : Chg b w w'] [h : Cell w g off v] [a : Apart g (g + 1) b] : Cell w' g off v := h.same (c.same a.out) c.size
instance (priority := low) Own.ext [x : Ext w w'] [h : Own e b w v us] : Own e b w' v us := by
  obtain ⟨cap, cur, hv, hb, h1, h2, h3, h4⟩ := h.ex
  have hlt : b < w.heap.size := (Array.getElem?_eq_some_iff.1 hb).1
  exact ⟨⟨cap, cur, hv, by rw [x.below.block b hlt]; exact hb, h1, h2, h3, h4⟩⟩
instance (priority := low) OwnI.ext [x : Ext w w'] [h : OwnI e b w v xs] : OwnI e b w' v xs := ⟨@Own.ext _ _ _ _ _ _ x h.own⟩
theorem Own.lt (h : Own e b w v us) : b < w.heap.size := by
  obtain ⟨cap, cur, hv, hb, _⟩ := h.ex
  exact (Array.getElem?_eq_some_iff.1 hb).1
theorem Own.chg' {g : Nat} (h : Own e b w v us) (c : Chg g w w') (hne : b ≠ g) : Own e b w' v us := by
  obtain ⟨cap, cur, hv, hb, h1, h2, h3, h4⟩ := h.ex
  exact ⟨⟨cap, cur, hv, by rw [c.by_.block b h.lt (by simp; omega)]; exact hb, h1, h2, h3, h4⟩⟩
theorem Own.cellAt (h : Own e b w v us) {k : Nat} {u : Value} (hu : us[k]? = some u) : w.cell? ⟨b, k, none⟩ = some u := by
  obtain ⟨cap, cur, hv, hb, h1, h2, h3, h4⟩ := h.ex
  rw [cell_of_row w b k cur e (0, 0) hb]
  rw [← h4, List.getElem?_take] at hu
  split at hu
  · simpa using hu
  · cases hu
theorem Own.toSl (h : Own e b w v us) : Sl b (b + 1) w v us := by
  obtain ⟨cap, cur, hv, hb, h1, h2, h3, h4⟩ := h.ex
  refine ⟨⟨some ⟨b, 0, none⟩, cap, hv, h1, by simp only [maxLen] at h2; omega, fun k u hu => ⟨⟨b, 0, none⟩, rfl, Nat.le_refl _, by simp, ?_⟩⟩⟩
  have hadd : (Addr.mk b 0 none).add k = ⟨b, k, none⟩ := by unfold Addr.add; split <;> simp_all
  rw [hadd]; exact h.cellAt hu
instance [h : Own e b w v us] : Sl b (b + 1) w v us := h.toSl
instance [h : OwnI e b w v xs] : Ints b (b + 1) w v xs := ⟨h.own.toSl⟩
theorem Sl.wide (h : Sl lo hi w v us) : Sl 0 w.heap.size w v us := by
  obtain ⟨A, c, hv, hc, hm, hcell⟩ := h.ex
  exact ⟨⟨A, c, hv, hc, hm, fun k u hu => let ⟨a, h1, _, _, h4⟩ := hcell k u hu; ⟨a, h1, Nat.zero_le _, by have := block_lt h4; rwa [add_block] at this, h4⟩⟩⟩
theorem Sl.mono {lo' hi' : Nat} (h : Sl lo hi w v us) (h1 : lo' ≤ lo) (h2 : hi ≤ hi') : Sl lo' hi' w v us := by
  obtain ⟨A, c, hv, hc, hm, hcell⟩ := h.ex
  exact ⟨⟨A, c, hv, hc, hm, fun k u hu => let ⟨a, h1, h2, h3, h4⟩ := hcell k u hu; ⟨a, h1, by omega, by omega, h4⟩⟩⟩
theorem Ints.wide (h : Ints lo hi w v xs) : Ints 0 w.heap.size w v xs := ⟨h.sl.wide⟩
theorem Rows.wide (h : Rows lo hi w v us xss) : Rows 0 w.heap.size w v us xss := ⟨h.sl.wide, h.vals.len, fun i => (h.vals.at_ i).wide⟩
theorem Rowss.wide (h : Rowss lo hi w v us uss xsss) : Rowss 0 w.heap.size w v us uss xsss := ⟨h.sl.wide, h.vals.len, h.vals.len', fun i => (h.vals.at_ i).wide⟩
theorem Ints.mono {lo' hi' : Nat} (h : Ints lo hi w v xs) (h1 : lo' ≤ lo) (h2 : hi ≤ hi') : Ints lo' hi' w v xs := ⟨h.sl.mono h1 h2⟩
theorem Rows.mono {lo' hi' : Nat} (h : Rows lo hi w v us xss) (h1 : lo' ≤ lo) (h2 : hi ≤ hi') : Rows lo' hi' w v us xss := ⟨h.sl.mono h1 h2, h.vals.len, fun i => (h.vals.at_ i).mono h1 h2⟩
end

/-! ### operations that make or write memory -/
section
variable {P : Program} {ρ : Env} {w : World} {ty : TypeId}
theorem ex_box3 {t : TypeId} {x : Operand} {v0 v1 v2 : Value} (h : ev ρ x = .agg #[v0, v1, v2]) :
    Ex P (.box t x) ty ρ w (.pointer (some ⟨w.heap.size, 0, none⟩)) (w.alloc (.cells #[v0, v1, v2] t)) := by
  constructor; intro _ _ _ _
  simp [execOp, h, Instr.box, newVar, newRow, Value.cells]
theorem cell_alloc (w : World) (cs : Array Value) (t : TypeId) (k : Nat) (v : Value) (h : cs[k]? = some v) : Cell (w.alloc (.cells cs t)) w.heap.size k v :=
  ⟨by rw [cell_of_row _ _ k cs t (0, 0) (heap_alloc_new w _)]; exact h, by simp⟩
theorem own_alloc (w : World) (us : List Value) (e : TypeId) (h : us.length ≤ maxLen) : Own e w.heap.size (w.alloc (.cells us.toArray e)) (.slice (some ⟨w.heap.size, 0, none⟩) us.length us.length) us :=
  ⟨⟨us.length, us.toArray, rfl, heap_alloc_new w _, Nat.le_refl _, h, by simp, by simp⟩⟩
theorem ex_make {t e n bytes : Nat} {x y : Operand} {k : Int} {z : Value} (h : ev ρ x = .int .i64 k) (h' : ev ρ y = .int .i64 k) [ht : SlT P t e] [he : ElT P e 1 bytes z] [hm : NatOf k n] (hz : z.cells = #[z])
    (h0 : 0 ≤ k) (hb : k * bytes ≤ 140737488355328) (h1 : k ≤ 9223372036854775807) :
    Ex P (.makeSlice t x y) ty ρ w (.slice (some ⟨w.heap.size, 0, none⟩) n n) (w.alloc (.cells (List.replicate n z).toArray e)) := by
  obtain ⟨i, hi, hs, hby, hz'⟩ := he.ex
  have hn : k = (n : Int) := by have := hm.eq; omega
  subst hn
  have hcells : madeCells z.cells (n * i.size) = (List.replicate n z).toArray := by
    rw [hs, Nat.mul_one, hz]
    apply Array.ext
    · simp [madeCells]
    · intro j h1 h2
      simp [madeCells]
      rw [Nat.mod_one]
      rfl
  have hr := run_make (P := P) w t e i z ht.eq hi hz' .i64 .i64 n n (by omega) (by omega) (by rw [hby]; rw [Int.mul_comm]; omega) (by omega)
  constructor; intro _ _ _ _
  simp only [Int.toNat_natCast] at hr
  simp [execOp, h, h', hr, hcells]
end
end Go.Pc

/-
  The reading rules once more, for regions that draw their order: what is read is read in every later world.
  Conditions: none; made by program out of the reading rules.
-/
namespace Go.Pc
open Go Go.RowKit
structure RdS (P : Program) (o : Op) (ty : TypeId) (ρ : Env) (w : World) (v : Value) : Prop where
  at_ : ∀ w', Ext w w' → Rd P o ty ρ w' v
section
variable {P : Program} {ρ : Env} {w : World} {ty : TypeId}
theorem rs_move {x : Operand} {v : Value} (h : ev ρ x = v) : RdS P (.move x) ty ρ w v := ⟨fun _ _ => rd_move h⟩
theorem rs_assign {x : Operand} {v : Value} (h : ev ρ x = v) : RdS P (.assign x) ty ρ w v := ⟨fun _ _ => rd_assign h⟩
theorem rs_len {x : Operand} {v : Value} {t e n : Nat} (h : ev ρ x = v) [ht : SlT P t e] [hl : Len w v n] : RdS P (.call { callee := .builtin .len, args := #[x], argTypes := #[t] }) ty ρ w (.int .i64 n) := ⟨fun _ _ => rd_len h⟩
theorem rs_index {x ix : Operand} {v : Value} {k : Int} {t e n m bytes : Nat} {z : Value} (h : ev ρ x = v) (hk : ev ρ ix = .int .i64 k) [ht : SlT P t e] [he : ElT P e 1 bytes z] [hl : Len w v n] [hm : NatOf k m]
    (h0 : 0 ≤ k) (h1 : k < n) : RdS P (.indexAddr t x ix) ty ρ w (eptr v m) := ⟨fun _ _ => rd_index h hk h0 h1⟩
theorem rs_load_ints {x : Operand} {v : Value} {t lo hi m : Nat} {xs : List Int} (h : ev ρ x = eptr v m) [hp : PlainT P t] [hx : Ints lo hi w v xs] (hm : m < xs.length) : RdS P (.load t x) ty ρ w (.int .i64 (xs.getD m 0)) := ⟨fun _ _ => rd_load_ints h hm⟩
theorem rs_load_rows {x : Operand} {v : Value} {t lo hi m : Nat} {us : List Value} {xss : List (List Int)} (h : ev ρ x = eptr v m) [hp : PlainT P t] [hx : Rows lo hi w v us xss] (hm : m < xss.length) : RdS P (.load t x) ty ρ w (rowAt v us m) := ⟨fun _ _ => rd_load_rows h hm⟩
theorem rs_load_sl {x : Operand} {v : Value} {t lo hi m : Nat} {us : List Value} (h : ev ρ x = eptr v m) [hp : PlainT P t] [hx : Sl lo hi w v us] (hm : m < us.length) : RdS P (.load t x) ty ρ w (rowAt v us m) := ⟨fun _ _ => rd_load_sl h hm⟩
theorem rs_load_rowss {x : Operand} {v : Value} {t lo hi m : Nat} {us : List Value} {uss : List (List Value)} {xsss : List (List (List Int))} (h : ev ρ x = eptr v m) [hp : PlainT P t] [hx : Rowss lo hi w v us uss xsss] (hm : m < xsss.length) : RdS P (.load t x) ty ρ w (rowAt v us m) := ⟨fun _ _ => rd_load_rowss h hm⟩
theorem rs_load_cell {x : Operand} {b off t : Nat} {v : Value} (h : ev ρ x = .pointer (some ⟨b, off, none⟩)) [hp : PlainT P t] [hx : Cell w b off v] : RdS P (.load t x) ty ρ w v := ⟨fun _ _ => rd_load_cell h⟩
theorem rs_load_agg3 {x : Operand} {b t : Nat} {v0 v1 v2 : Value} (h : ev ρ x = .pointer (some ⟨b, 0, none⟩)) [hp : StructT P t 3] [h0 : Cell w b 0 v0] [h1 : Cell w b 1 v1] [h2 : Cell w b 2 v2] : RdS P (.load t x) ty ρ w (.agg #[v0, v1, v2]) := ⟨fun _ _ => rd_load_agg3 h⟩
theorem rs_field {x : Operand} {b s f off : Nat} (h : ev ρ x = .pointer (some ⟨b, 0, none⟩)) [hf : FldT P s f off] : RdS P (.fieldAddr s x f) ty ρ w (.pointer (some ⟨b, off, none⟩)) := ⟨fun _ _ => rd_field h⟩
theorem rs_load_agg3o {x : Operand} {b o t : Nat} {v0 v1 v2 : Value} (h : ev ρ x = .pointer (some ⟨b, o, none⟩)) [hp : StructT P t 3] [h0 : Cell w b o v0] [h1 : Cell w b (o + 1) v1] [h2 : Cell w b (o + 2) v2] : RdS P (.load t x) ty ρ w (.agg #[v0, v1, v2]) := ⟨fun _ _ => rd_load_agg3o h⟩
theorem rs_load_agg7 {x : Operand} {b t : Nat} {v0 v1 v2 v3 v4 v5 v6 : Value} (h : ev ρ x = .pointer (some ⟨b, 0, none⟩)) [hp : StructT P t 7] [h0 : Cell w b 0 v0] [h1 : Cell w b 1 v1] [h2 : Cell w b 2 v2] [h3 : Cell w b 3 v3] [h4 : Cell w b 4 v4] [h5 : Cell w b 5 v5] [h6 : Cell w b 6 v6] : RdS P (.load t x) ty ρ w (.agg #[v0, v1, v2, v3, v4, v5, v6]) := ⟨fun _ _ => rd_load_agg7 h⟩
theorem rs_fieldo0 {x : Operand} {b o s f : Nat} (h : ev ρ x = .pointer (some ⟨b, o, none⟩)) [hf : FldT P s f 0] : RdS P (.fieldAddr s x f) ty ρ w (.pointer (some ⟨b, o, none⟩)) := ⟨fun _ _ => rd_fieldo0 h⟩
theorem rs_fieldo {x : Operand} {b o s f off : Nat} (h : ev ρ x = .pointer (some ⟨b, o, none⟩)) [hf : FldT P s f off] : RdS P (.fieldAddr s x f) ty ρ w (.pointer (some ⟨b, o + off, none⟩)) := ⟨fun _ _ => rd_fieldo h⟩
theorem rs_nilCheck {x : Operand} {a : Addr} (h : ev ρ x = .pointer (some a)) : RdS P (.nilCheck x) ty ρ w (.pointer (some a)) := ⟨fun _ _ => rd_nilCheck h⟩
theorem rs_add {x y : Operand} {a b : Int} {tx tyy : TypeId} (h : ev ρ x = .int .i64 a) (k : ev ρ y = .int .i64 b) (hb : -9223372036854775808 ≤ a + b ∧ a + b ≤ 9223372036854775807) : RdS P (.binOp .add tx x y tyy) ty ρ w (.int .i64 (a + b)) := ⟨fun _ _ => rd_add h k hb⟩
theorem rs_sub {x y : Operand} {a b : Int} {tx tyy : TypeId} (h : ev ρ x = .int .i64 a) (k : ev ρ y = .int .i64 b) (hb : -9223372036854775808 ≤ a - b ∧ a - b ≤ 9223372036854775807) : RdS P (.binOp .sub tx x y tyy) ty ρ w (.int .i64 (a - b)) := ⟨fun _ _ => rd_sub h k hb⟩
theorem rs_mul {x y : Operand} {a b : Int} {tx tyy : TypeId} (h : ev ρ x = .int .i64 a) (k : ev ρ y = .int .i64 b) (hb : -9223372036854775808 ≤ a * b ∧ a * b ≤ 9223372036854775807) : RdS P (.binOp .mul tx x y tyy) ty ρ w (.int .i64 (a * b)) := ⟨fun _ _ => rd_mul h k hb⟩
theorem rs_quo {x y : Operand} {a b : Int} {tx tyy : TypeId} (h : ev ρ x = .int .i64 a) (k : ev ρ y = .int .i64 b) (hb : 0 ≤ a ∧ a ≤ 9223372036854775807 ∧ 1 ≤ b) : RdS P (.binOp .quo tx x y tyy) ty ρ w (.int .i64 (a / b)) := ⟨fun _ _ => rd_quo h k hb⟩
theorem rs_rem {x y : Operand} {a b : Int} {tx tyy : TypeId} (h : ev ρ x = .int .i64 a) (k : ev ρ y = .int .i64 b) (hb : 0 ≤ a ∧ 1 ≤ b) : RdS P (.binOp .rem tx x y tyy) ty ρ w (.int .i64 (a % b)) := ⟨fun _ _ => rd_rem h k hb⟩
theorem rs_lss {x y : Operand} {a b : Int} {tx tyy : TypeId} (h : ev ρ x = .int .i64 a) (k : ev ρ y = .int .i64 b) : RdS P (.binOp .lss tx x y tyy) ty ρ w (.bool (decide (a < b))) := ⟨fun _ _ => rd_lss h k⟩
theorem rs_leq {x y : Operand} {a b : Int} {tx tyy : TypeId} (h : ev ρ x = .int .i64 a) (k : ev ρ y = .int .i64 b) : RdS P (.binOp .leq tx x y tyy) ty ρ w (.bool (decide (a ≤ b))) := ⟨fun _ _ => rd_leq h k⟩
theorem rs_gtr {x y : Operand} {a b : Int} {tx tyy : TypeId} (h : ev ρ x = .int .i64 a) (k : ev ρ y = .int .i64 b) : RdS P (.binOp .gtr tx x y tyy) ty ρ w (.bool (decide (b < a))) := ⟨fun _ _ => rd_gtr h k⟩
theorem rs_geq {x y : Operand} {a b : Int} {tx tyy : TypeId} (h : ev ρ x = .int .i64 a) (k : ev ρ y = .int .i64 b) : RdS P (.binOp .geq tx x y tyy) ty ρ w (.bool (decide (b ≤ a))) := ⟨fun _ _ => rd_geq h k⟩
theorem rs_eql {x y : Operand} {a b : Int} {tx tyy : TypeId} (h : ev ρ x = .int .i64 a) (k : ev ρ y = .int .i64 b) : RdS P (.binOp .eql tx x y tyy) ty ρ w (.bool (decide (a = b))) := ⟨fun _ _ => rd_eql h k⟩
theorem rs_neq {x y : Operand} {a b : Int} {tx tyy : TypeId} (h : ev ρ x = .int .i64 a) (k : ev ρ y = .int .i64 b) : RdS P (.binOp .neq tx x y tyy) ty ρ w (.bool (decide (a ≠ b))) := ⟨fun _ _ => rd_neq h k⟩
theorem rs_not {x : Operand} {b : Bool} {tx : TypeId} (h : ev ρ x = .bool b) : RdS P (.unOp .not tx x) ty ρ w (.bool (!b)) := ⟨fun _ _ => rd_not h⟩
theorem rs_neg {x : Operand} {a : Int} {tx : TypeId} (h : ev ρ x = .int .i64 a) (hb : -9223372036854775807 ≤ a ∧ a ≤ 9223372036854775807) : RdS P (.unOp .neg tx x) ty ρ w (.int .i64 (-a)) := ⟨fun _ _ => rd_neg h hb⟩
theorem rs_pick_t {c x y : Operand} {v : Value} (h : ev ρ c = .bool true) (hx : ev ρ x = v) : RdS P (.pick c x y) ty ρ w v := ⟨fun _ _ => rd_pick_t h hx⟩
theorem rs_pick_f {c x y : Operand} {v : Value} (h : ev ρ c = .bool false) (hx : ev ρ y = v) : RdS P (.pick c x y) ty ρ w v := ⟨fun _ _ => rd_pick_f h hx⟩
theorem rs_ext2a {x : Operand} {v0 v1 : Value} (h : ev ρ x = .tuple #[v0, v1]) : RdS P (.extract x 0) ty ρ w v0 := ⟨fun _ _ => rd_ext2a h⟩
theorem rs_ext2b {x : Operand} {v0 v1 : Value} (h : ev ρ x = .tuple #[v0, v1]) : RdS P (.extract x 1) ty ρ w v1 := ⟨fun _ _ => rd_ext2b h⟩
theorem rs_ext3a {x : Operand} {v0 v1 v2 : Value} (h : ev ρ x = .tuple #[v0, v1, v2]) : RdS P (.extract x 0) ty ρ w v0 := ⟨fun _ _ => rd_ext3a h⟩
theorem rs_ext3b {x : Operand} {v0 v1 v2 : Value} (h : ev ρ x = .tuple #[v0, v1, v2]) : RdS P (.extract x 1) ty ρ w v1 := ⟨fun _ _ => rd_ext3b h⟩
theorem rs_ext3c {x : Operand} {v0 v1 v2 : Value} (h : ev ρ x = .tuple #[v0, v1, v2]) : RdS P (.extract x 2) ty ρ w v2 := ⟨fun _ _ => rd_ext3c h⟩
theorem rs_ext4a {x : Operand} {v0 v1 v2 v3 : Value} (h : ev ρ x = .tuple #[v0, v1, v2, v3]) : RdS P (.extract x 0) ty ρ w v0 := ⟨fun _ _ => rd_ext4a h⟩
theorem rs_ext4b {x : Operand} {v0 v1 v2 v3 : Value} (h : ev ρ x = .tuple #[v0, v1, v2, v3]) : RdS P (.extract x 1) ty ρ w v1 := ⟨fun _ _ => rd_ext4b h⟩
theorem rs_ext4c {x : Operand} {v0 v1 v2 v3 : Value} (h : ev ρ x = .tuple #[v0, v1, v2, v3]) : RdS P (.extract x 2) ty ρ w v2 := ⟨fun _ _ => rd_ext4c h⟩
theorem rs_ext4d {x : Operand} {v0 v1 v2 v3 : Value} (h : ev ρ x = .tuple #[v0, v1, v2, v3]) : RdS P (.extract x 3) ty ρ w v3 := ⟨fun _ _ => rd_ext4d h⟩
theorem rs_eqnil {x : Operand} {v : Value} {b : Bool} {t e : TypeId} {tyy : TypeId} (h : ev ρ x = v) [ht : SlT P t e] [hb : NilB v b] : RdS P (.binOp .eql t x (.const (.slice none 0 0)) tyy) ty ρ w (.bool b) := ⟨fun _ _ => rd_eqnil h⟩
theorem rs_neqnil_t {x : Operand} {v : Value} {t e : TypeId} {tyy : TypeId} (h : ev ρ x = v) [ht : SlT P t e] [hb : NilB v false] : RdS P (.binOp .neq t x (.const (.slice none 0 0)) tyy) ty ρ w (.bool true) := ⟨fun _ _ => rd_neqnil_t h⟩
theorem rs_neqnil_f {x : Operand} {v : Value} {t e : TypeId} {tyy : TypeId} (h : ev ρ x = v) [ht : SlT P t e] [hb : NilB v true] : RdS P (.binOp .neq t x (.const (.slice none 0 0)) tyy) ty ρ w (.bool false) := ⟨fun _ _ => rd_neqnil_f h⟩
end
end Go.Pc

/-
  The rules of the calculus with their side conditions searched for by the rules themselves.
  Conditions: none; nothing of the program stands here.
-/
namespace Go.Pc
open Go Go.RowKit
/-! frames with some slots known -/
def putL : List (Nat × Value) → Env → Env
  | [], ρ => ρ
  | (d, v) :: L, ρ => put (putL L ρ) d v
def Has (ρ : Env) : List (Nat × Value) → Prop
  | [] => True
  | (d, v) :: L => get ρ d = v ∧ Has ρ L
theorem get_putL_nil (ρ : Env) (t : Nat) : get (putL [] ρ) t = get ρ t := rfl
theorem get_putL (ρ : Env) (d t : Nat) (v : Value) (L : List (Nat × Value)) : get (putL ((d, v) :: L) ρ) t = if t = d then v else get (putL L ρ) t := rfl
theorem put_self {ρ : Env} {d : Nat} {v : Value} (h : get ρ d = v) : put ρ d v = ρ := by
  funext t; simp only [put]; split
  · rename_i e; subst e; exact h.symm
  · rfl
theorem Has.eq {ρ : Env} : ∀ {L : List (Nat × Value)}, Has ρ L → ρ = putL L ρ
  | [], _ => rfl
  | (d, v) :: L, h => by
    have := Has.eq h.2
    show ρ = put (putL L ρ) d v
    rw [← this, put_self h.1]
theorem int_congr {a b : Int} (h : a = b) : Value.int .i64 a = Value.int .i64 b := by rw [h]
theorem rwp_has {P : Program} {N : Nat} {c : Code} {Q : Post} {ρ : Env} {w : World} {L : List (Nat × Value)} (h : Has ρ L) (k : ∀ ρ0, rwp P N c Q (putL L ρ0) w) : rwp P N c Q ρ w := by
  rw [h.eq]; exact k ρ

section
variable {P : Program} {N : Nat} {ops : Array Oper} {K : Env → World → Prop} {ρ : Env} {w : World} {l : List Oper}
variable {d : Nat} {op : Op} {ty : TypeId} {pos : String} {after : Array Edge} {g : Option (Nat × Bool)}

/-- One operation that only reads. -/
theorem ra {v : Value} (h : Rd P op ty ρ w v := by first | exact rd_move (by ((try simp only [ev_tmp, ev_const, ev_func, get_put, get_args, get_putL, get_putL_nil, Nat.reduceEqDiff, reduceIte, List.getD_cons_zero, List.getD_cons_succ, List.getD_nil]); first | done | with_reducible rfl)) | exact rd_assign (by ((try simp only [ev_tmp, ev_const, ev_func, get_put, get_args, get_putL, get_putL_nil, Nat.reduceEqDiff, reduceIte, List.getD_cons_zero, List.getD_cons_succ, List.getD_nil]); first | done | with_reducible rfl)) | (refine rd_index (by ((try simp only [ev_tmp, ev_const, ev_func, get_put, get_args, get_putL, get_putL_nil, Nat.reduceEqDiff, reduceIte, List.getD_cons_zero, List.getD_cons_succ, List.getD_nil]); first | done | with_reducible rfl)) (by ((try simp only [ev_tmp, ev_const, ev_func, get_put, get_args, get_putL, get_putL_nil, Nat.reduceEqDiff, reduceIte, List.getD_cons_zero, List.getD_cons_succ, List.getD_nil]); first | done | with_reducible rfl)) ?_ ?_ <;> omega) | (refine rd_load_ints (by ((try simp only [ev_tmp, ev_const, ev_func, get_put, get_args, get_putL, get_putL_nil, Nat.reduceEqDiff, reduceIte, List.getD_cons_zero, List.getD_cons_succ, List.getD_nil]); first | done | with_reducible rfl)) ?_ <;> omega) | (refine rd_load_rows (by ((try simp only [ev_tmp, ev_const, ev_func, get_put, get_args, get_putL, get_putL_nil, Nat.reduceEqDiff, reduceIte, List.getD_cons_zero, List.getD_cons_succ, List.getD_nil]); first | done | with_reducible rfl)) ?_ <;> omega) | (refine rd_load_rowss (by ((try simp only [ev_tmp, ev_const, ev_func, get_put, get_args, get_putL, get_putL_nil, Nat.reduceEqDiff, reduceIte, List.getD_cons_zero, List.getD_cons_succ, List.getD_nil]); first | done | with_reducible rfl)) ?_ <;> omega) | exact rd_load_cell (by ((try simp only [ev_tmp, ev_const, ev_func, get_put, get_args, get_putL, get_putL_nil, Nat.reduceEqDiff, reduceIte, List.getD_cons_zero, List.getD_cons_succ, List.getD_nil]); first | done | with_reducible rfl)) | exact rd_load_agg3 (by ((try simp only [ev_tmp, ev_const, ev_func, get_put, get_args, get_putL, get_putL_nil, Nat.reduceEqDiff, reduceIte, List.getD_cons_zero, List.getD_cons_succ, List.getD_nil]); first | done | with_reducible rfl)) | exact rd_field (by ((try simp only [ev_tmp, ev_const, ev_func, get_put, get_args, get_putL, get_putL_nil, Nat.reduceEqDiff, reduceIte, List.getD_cons_zero, List.getD_cons_succ, List.getD_nil]); first | done | with_reducible rfl)) | exact rd_load_agg3o (by ((try simp only [ev_tmp, ev_const, ev_func, get_put, get_args, get_putL, get_putL_nil, Nat.reduceEqDiff, reduceIte, List.getD_cons_zero, List.getD_cons_succ, List.getD_nil]); first | done | with_reducible rfl)) | exact rd_fieldo0 (by ((try simp only [ev_tmp, ev_const, ev_func, get_put, get_args, get_putL, get_putL_nil, Nat.reduceEqDiff, reduceIte, List.getD_cons_zero, List.getD_cons_succ, List.getD_nil]); first | done | with_reducible rfl)) | exact rd_fieldo (by ((try simp only [ev_tmp, ev_const, ev_func, get_put, get_args, get_putL, get_putL_nil, Nat.reduceEqDiff, reduceIte, List.getD_cons_zero, List.getD_cons_succ, List.getD_nil]); first | done | with_reducible rfl)) | exact rd_load_agg7 (by ((try simp only [ev_tmp, ev_const, ev_func, get_put, get_args, get_putL, get_putL_nil, Nat.reduceEqDiff, reduceIte, List.getD_cons_zero, List.getD_cons_succ, List.getD_nil]); first | done | with_reducible rfl)) | exact rd_len (by ((try simp only [ev_tmp, ev_const, ev_func, get_put, get_args, get_putL, get_putL_nil, Nat.reduceEqDiff, reduceIte, List.getD_cons_zero, List.getD_cons_succ, List.getD_nil]); first | done | with_reducible rfl)) | (refine rd_add (by ((try simp only [ev_tmp, ev_const, ev_func, get_put, get_args, get_putL, get_putL_nil, Nat.reduceEqDiff, reduceIte, List.getD_cons_zero, List.getD_cons_succ, List.getD_nil]); first | done | with_reducible rfl)) (by ((try simp only [ev_tmp, ev_const, ev_func, get_put, get_args, get_putL, get_putL_nil, Nat.reduceEqDiff, reduceIte, List.getD_cons_zero, List.getD_cons_succ, List.getD_nil]); first | done | with_reducible rfl)) ?_ <;> omega) | (refine rd_sub (by ((try simp only [ev_tmp, ev_const, ev_func, get_put, get_args, get_putL, get_putL_nil, Nat.reduceEqDiff, reduceIte, List.getD_cons_zero, List.getD_cons_succ, List.getD_nil]); first | done | with_reducible rfl)) (by ((try simp only [ev_tmp, ev_const, ev_func, get_put, get_args, get_putL, get_putL_nil, Nat.reduceEqDiff, reduceIte, List.getD_cons_zero, List.getD_cons_succ, List.getD_nil]); first | done | with_reducible rfl)) ?_ <;> omega) | exact rd_lss (by ((try simp only [ev_tmp, ev_const, ev_func, get_put, get_args, get_putL, get_putL_nil, Nat.reduceEqDiff, reduceIte, List.getD_cons_zero, List.getD_cons_succ, List.getD_nil]); first | done | with_reducible rfl)) (by ((try simp only [ev_tmp, ev_const, ev_func, get_put, get_args, get_putL, get_putL_nil, Nat.reduceEqDiff, reduceIte, List.getD_cons_zero, List.getD_cons_succ, List.getD_nil]); first | done | with_reducible rfl)) | exact rd_geq (by ((try simp only [ev_tmp, ev_const, ev_func, get_put, get_args, get_putL, get_putL_nil, Nat.reduceEqDiff, reduceIte, List.getD_cons_zero, List.getD_cons_succ, List.getD_nil]); first | done | with_reducible rfl)) (by ((try simp only [ev_tmp, ev_const, ev_func, get_put, get_args, get_putL, get_putL_nil, Nat.reduceEqDiff, reduceIte, List.getD_cons_zero, List.getD_cons_succ, List.getD_nil]); first | done | with_reducible rfl)) | exact rd_leq (by ((try simp only [ev_tmp, ev_const, ev_func, get_put, get_args, get_putL, get_putL_nil, Nat.reduceEqDiff, reduceIte, List.getD_cons_zero, List.getD_cons_succ, List.getD_nil]); first | done | with_reducible rfl)) (by ((try simp only [ev_tmp, ev_const, ev_func, get_put, get_args, get_putL, get_putL_nil, Nat.reduceEqDiff, reduceIte, List.getD_cons_zero, List.getD_cons_succ, List.getD_nil]); first | done | with_reducible rfl)) | exact rd_gtr (by ((try simp only [ev_tmp, ev_const, ev_func, get_put, get_args, get_putL, get_putL_nil, Nat.reduceEqDiff, reduceIte, List.getD_cons_zero, List.getD_cons_succ, List.getD_nil]); first | done | with_reducible rfl)) (by ((try simp only [ev_tmp, ev_const, ev_func, get_put, get_args, get_putL, get_putL_nil, Nat.reduceEqDiff, reduceIte, List.getD_cons_zero, List.getD_cons_succ, List.getD_nil]); first | done | with_reducible rfl)) | exact rd_eql (by ((try simp only [ev_tmp, ev_const, ev_func, get_put, get_args, get_putL, get_putL_nil, Nat.reduceEqDiff, reduceIte, List.getD_cons_zero, List.getD_cons_succ, List.getD_nil]); first | done | with_reducible rfl)) (by ((try simp only [ev_tmp, ev_const, ev_func, get_put, get_args, get_putL, get_putL_nil, Nat.reduceEqDiff, reduceIte, List.getD_cons_zero, List.getD_cons_succ, List.getD_nil]); first | done | with_reducible rfl)) | exact rd_neq (by ((try simp only [ev_tmp, ev_const, ev_func, get_put, get_args, get_putL, get_putL_nil, Nat.reduceEqDiff, reduceIte, List.getD_cons_zero, List.getD_cons_succ, List.getD_nil]); first | done | with_reducible rfl)) (by ((try simp only [ev_tmp, ev_const, ev_func, get_put, get_args, get_putL, get_putL_nil, Nat.reduceEqDiff, reduceIte, List.getD_cons_zero, List.getD_cons_succ, List.getD_nil]); first | done | with_reducible rfl)) | exact rd_not (by ((try simp only [ev_tmp, ev_const, ev_func, get_put, get_args, get_putL, get_putL_nil, Nat.reduceEqDiff, reduceIte, List.getD_cons_zero, List.getD_cons_succ, List.getD_nil]); first | done | with_reducible rfl)) | (refine rd_neg (by ((try simp only [ev_tmp, ev_const, ev_func, get_put, get_args, get_putL, get_putL_nil, Nat.reduceEqDiff, reduceIte, List.getD_cons_zero, List.getD_cons_succ, List.getD_nil]); first | done | with_reducible rfl)) ?_ <;> omega) | exact rd_nilCheck (by ((try simp only [ev_tmp, ev_const, ev_func, get_put, get_args, get_putL, get_putL_nil, Nat.reduceEqDiff, reduceIte, List.getD_cons_zero, List.getD_cons_succ, List.getD_nil]); first | done | with_reducible rfl)) | exact rd_pick_t (by ((try simp only [ev_tmp, ev_const, ev_func, get_put, get_args, get_putL, get_putL_nil, Nat.reduceEqDiff, reduceIte, List.getD_cons_zero, List.getD_cons_succ, List.getD_nil]); first | done | with_reducible rfl)) (by ((try simp only [ev_tmp, ev_const, ev_func, get_put, get_args, get_putL, get_putL_nil, Nat.reduceEqDiff, reduceIte, List.getD_cons_zero, List.getD_cons_succ, List.getD_nil]); first | done | with_reducible rfl)) | exact rd_pick_f (by ((try simp only [ev_tmp, ev_const, ev_func, get_put, get_args, get_putL, get_putL_nil, Nat.reduceEqDiff, reduceIte, List.getD_cons_zero, List.getD_cons_succ, List.getD_nil]); first | done | with_reducible rfl)) (by ((try simp only [ev_tmp, ev_const, ev_func, get_put, get_args, get_putL, get_putL_nil, Nat.reduceEqDiff, reduceIte, List.getD_cons_zero, List.getD_cons_succ, List.getD_nil]); first | done | with_reducible rfl)) | exact rd_ext2a (by ((try simp only [ev_tmp, ev_const, ev_func, get_put, get_args, get_putL, get_putL_nil, Nat.reduceEqDiff, reduceIte, List.getD_cons_zero, List.getD_cons_succ, List.getD_nil]); first | done | with_reducible rfl)) | exact rd_ext2b (by ((try simp only [ev_tmp, ev_const, ev_func, get_put, get_args, get_putL, get_putL_nil, Nat.reduceEqDiff, reduceIte, List.getD_cons_zero, List.getD_cons_succ, List.getD_nil]); first | done | with_reducible rfl)) | exact rd_ext3a (by ((try simp only [ev_tmp, ev_const, ev_func, get_put, get_args, get_putL, get_putL_nil, Nat.reduceEqDiff, reduceIte, List.getD_cons_zero, List.getD_cons_succ, List.getD_nil]); first | done | with_reducible rfl)) | exact rd_ext3b (by ((try simp only [ev_tmp, ev_const, ev_func, get_put, get_args, get_putL, get_putL_nil, Nat.reduceEqDiff, reduceIte, List.getD_cons_zero, List.getD_cons_succ, List.getD_nil]); first | done | with_reducible rfl)) | exact rd_ext3c (by ((try simp only [ev_tmp, ev_const, ev_func, get_put, get_args, get_putL, get_putL_nil, Nat.reduceEqDiff, reduceIte, List.getD_cons_zero, List.getD_cons_succ, List.getD_nil]); first | done | with_reducible rfl)) | exact rd_ext4a (by ((try simp only [ev_tmp, ev_const, ev_func, get_put, get_args, get_putL, get_putL_nil, Nat.reduceEqDiff, reduceIte, List.getD_cons_zero, List.getD_cons_succ, List.getD_nil]); first | done | with_reducible rfl)) | exact rd_ext4b (by ((try simp only [ev_tmp, ev_const, ev_func, get_put, get_args, get_putL, get_putL_nil, Nat.reduceEqDiff, reduceIte, List.getD_cons_zero, List.getD_cons_succ, List.getD_nil]); first | done | with_reducible rfl)) | exact rd_ext4c (by ((try simp only [ev_tmp, ev_const, ev_func, get_put, get_args, get_putL, get_putL_nil, Nat.reduceEqDiff, reduceIte, List.getD_cons_zero, List.getD_cons_succ, List.getD_nil]); first | done | with_reducible rfl)) | exact rd_ext4d (by ((try simp only [ev_tmp, ev_const, ev_func, get_put, get_args, get_putL, get_putL_nil, Nat.reduceEqDiff, reduceIte, List.getD_cons_zero, List.getD_cons_succ, List.getD_nil]); first | done | with_reducible rfl)) | exact rd_eqnil (by ((try simp only [ev_tmp, ev_const, ev_func, get_put, get_args, get_putL, get_putL_nil, Nat.reduceEqDiff, reduceIte, List.getD_cons_zero, List.getD_cons_succ, List.getD_nil]); first | done | with_reducible rfl)) | exact rd_neqnil_t (by ((try simp only [ev_tmp, ev_const, ev_func, get_put, get_args, get_putL, get_putL_nil, Nat.reduceEqDiff, reduceIte, List.getD_cons_zero, List.getD_cons_succ, List.getD_nil]); first | done | with_reducible rfl)) | exact rd_neqnil_f (by ((try simp only [ev_tmp, ev_const, ev_func, get_put, get_args, get_putL, get_putL_nil, Nat.reduceEqDiff, reduceIte, List.getD_cons_zero, List.getD_cons_succ, List.getD_nil]); first | done | with_reducible rfl)) | (refine rd_slice_l (by ((try simp only [ev_tmp, ev_const, ev_func, get_put, get_args, get_putL, get_putL_nil, Nat.reduceEqDiff, reduceIte, List.getD_cons_zero, List.getD_cons_succ, List.getD_nil]); first | done | with_reducible rfl)) (by ((try simp only [ev_tmp, ev_const, ev_func, get_put, get_args, get_putL, get_putL_nil, Nat.reduceEqDiff, reduceIte, List.getD_cons_zero, List.getD_cons_succ, List.getD_nil]); first | done | with_reducible rfl)) ?_ ?_ <;> omega) | (refine rd_slice_h (by ((try simp only [ev_tmp, ev_const, ev_func, get_put, get_args, get_putL, get_putL_nil, Nat.reduceEqDiff, reduceIte, List.getD_cons_zero, List.getD_cons_succ, List.getD_nil]); first | done | with_reducible rfl)) (by ((try simp only [ev_tmp, ev_const, ev_func, get_put, get_args, get_putL, get_putL_nil, Nat.reduceEqDiff, reduceIte, List.getD_cons_zero, List.getD_cons_succ, List.getD_nil]); first | done | with_reducible rfl)) ?_ ?_ <;> omega) | (refine rd_slice_lh (by ((try simp only [ev_tmp, ev_const, ev_func, get_put, get_args, get_putL, get_putL_nil, Nat.reduceEqDiff, reduceIte, List.getD_cons_zero, List.getD_cons_succ, List.getD_nil]); first | done | with_reducible rfl)) (by ((try simp only [ev_tmp, ev_const, ev_func, get_put, get_args, get_putL, get_putL_nil, Nat.reduceEqDiff, reduceIte, List.getD_cons_zero, List.getD_cons_succ, List.getD_nil]); first | done | with_reducible rfl)) (by ((try simp only [ev_tmp, ev_const, ev_func, get_put, get_args, get_putL, get_putL_nil, Nat.reduceEqDiff, reduceIte, List.getD_cons_zero, List.getD_cons_succ, List.getD_nil]); first | done | with_reducible rfl)) ?_ ?_ ?_ <;> omega) | (refine rd_quo (by ((try simp only [ev_tmp, ev_const, ev_func, get_put, get_args, get_putL, get_putL_nil, Nat.reduceEqDiff, reduceIte, List.getD_cons_zero, List.getD_cons_succ, List.getD_nil]); first | done | with_reducible rfl)) (by ((try simp only [ev_tmp, ev_const, ev_func, get_put, get_args, get_putL, get_putL_nil, Nat.reduceEqDiff, reduceIte, List.getD_cons_zero, List.getD_cons_succ, List.getD_nil]); first | done | with_reducible rfl)) ?_ <;> omega) | (refine rd_rem (by ((try simp only [ev_tmp, ev_const, ev_func, get_put, get_args, get_putL, get_putL_nil, Nat.reduceEqDiff, reduceIte, List.getD_cons_zero, List.getD_cons_succ, List.getD_nil]); first | done | with_reducible rfl)) (by ((try simp only [ev_tmp, ev_const, ev_func, get_put, get_args, get_putL, get_putL_nil, Nat.reduceEqDiff, reduceIte, List.getD_cons_zero, List.getD_cons_succ, List.getD_nil]); first | done | with_reducible rfl)) ?_ <;> omega)) (hg : Wants ops ρ g := by first | exact True.intro | exact ⟨_, rfl, by ((try simp only [ev_tmp, ev_const, ev_func, get_put, get_args, get_putL, get_putL_nil, Nat.reduceEqDiff, reduceIte, List.getD_cons_zero, List.getD_cons_succ, List.getD_nil, Bool.not_true, Bool.not_false]); first | done | with_reducible rfl)⟩)
    (next : rops P N ops K l (put ρ d v) w) : rops P N ops K (⟨some d, op, ty, pos, after, g⟩ :: l) ρ w := st_rd hg h next
/-- One operation whose guard says no. -/
theorem rk {j t : Nat} {b : Bool} (ht : (ops[j]?).bind (·.dst) = some t := by exact rfl) (hb : get ρ t = .bool (!b) := by ((try simp only [ev_tmp, ev_const, ev_func, get_put, get_args, get_putL, get_putL_nil, Nat.reduceEqDiff, reduceIte, List.getD_cons_zero, List.getD_cons_succ, List.getD_nil, Bool.not_true, Bool.not_false]); first | done | with_reducible rfl))
    (next : rops P N ops K l (put ρ d undef) w) : rops P N ops K (⟨some d, op, ty, pos, after, some (j, b)⟩ :: l) ρ w := st_skip ht hb next
theorem rku {j t : Nat} {b : Bool} (ht : (ops[j]?).bind (·.dst) = some t := by exact rfl) (hb : get ρ t = undef := by ((try simp only [ev_tmp, ev_const, ev_func, get_put, get_args, get_putL, get_putL_nil, Nat.reduceEqDiff, reduceIte, List.getD_cons_zero, List.getD_cons_succ, List.getD_nil, Bool.not_true, Bool.not_false]); first | done | with_reducible rfl))
    (next : rops P N ops K l (put ρ d undef) w) : rops P N ops K (⟨some d, op, ty, pos, after, some (j, b)⟩ :: l) ρ w := st_skipu ht hb next
/-- The slot just written holds a Bool: both ways. -/
theorem sp {b : Bool} (ht : b = true → rops P N ops K l (put ρ d (.bool true)) w) (hf : b = false → rops P N ops K l (put ρ d (.bool false)) w) : rops P N ops K l (put ρ d (.bool b)) w := by
  cases b
  · exact hf rfl
  · exact ht rfl
theorem spd {p : Prop} [Decidable p] (ht : p → rops P N ops K l (put ρ d (.bool true)) w) (hf : ¬ p → rops P N ops K l (put ρ d (.bool false)) w) : rops P N ops K l (put ρ d (.bool (decide p))) w := by
  by_cases h : p
  · rw [decide_eq_true h]; exact ht h
  · rw [decide_eq_false h]; exact hf h
/-- A call. -/
theorem rc {f : FuncId} {args : Array Value} {R : Value → World → Prop} (hc : Calls P f args w (Ret R)) (ho : Cl P op ty ρ f args := by ((first | refine cl_func ?_ | refine cl_fval ((by ((try simp only [ev_tmp, ev_const, ev_func, get_put, get_args, get_putL, get_putL_nil, Nat.reduceEqDiff, reduceIte, List.getD_cons_zero, List.getD_cons_succ, List.getD_nil]); first | done | with_reducible rfl))) ?_); ((try simp only [List.map_toArray, List.map_cons, List.map_nil, ev_tmp, ev_const, ev_func, get_put, get_args, get_putL, get_putL_nil, Nat.reduceEqDiff, reduceIte, List.getD_cons_zero, List.getD_cons_succ, List.getD_nil]); first | done | with_reducible rfl | rfl))) (hg : Wants ops ρ g := by first | exact True.intro | exact ⟨_, rfl, by ((try simp only [ev_tmp, ev_const, ev_func, get_put, get_args, get_putL, get_putL_nil, Nat.reduceEqDiff, reduceIte, List.getD_cons_zero, List.getD_cons_succ, List.getD_nil, Bool.not_true, Bool.not_false]); first | done | with_reducible rfl)⟩)
    (next : ∀ v w', R v w' → rops P N ops K l (put ρ d v) w') : rops P N ops K (⟨some d, op, ty, pos, after, g⟩ :: l) ρ w := st_call hg ho hc next
variable {Q : Post} {c : Operand} {x y : Code}
theorem c_t (hc : ev ρ c = .bool true := by ((try simp only [ev_tmp, ev_const, ev_func, get_put, get_args, get_putL, get_putL_nil, Nat.reduceEqDiff, reduceIte, List.getD_cons_zero, List.getD_cons_succ, List.getD_nil]); first | done | with_reducible rfl)) (h : rwp P N x Q ρ w) : rwp P N (.cond c x y) Q ρ w := r_cond hc (fun _ => h) (fun h => by cases h)
theorem c_f (hc : ev ρ c = .bool false := by ((try simp only [ev_tmp, ev_const, ev_func, get_put, get_args, get_putL, get_putL_nil, Nat.reduceEqDiff, reduceIte, List.getD_cons_zero, List.getD_cons_succ, List.getD_nil]); first | done | with_reducible rfl)) (h : rwp P N y Q ρ w) : rwp P N (.cond c x y) Q ρ w := r_cond hc (fun h => by cases h) (fun _ => h)
theorem c_if {p : Prop} {hp : Decidable p} (ht : p → rwp P N x Q ρ w) (hf : ¬ p → rwp P N y Q ρ w) (hc : ev ρ c = .bool (decide p) := by ((try simp only [ev_tmp, ev_const, ev_func, get_put, get_args, get_putL, get_putL_nil, Nat.reduceEqDiff, reduceIte, List.getD_cons_zero, List.getD_cons_succ, List.getD_nil]); first | done | with_reducible rfl)) : rwp P N (.cond c x y) Q ρ w :=
  r_cond hc (fun h => ht (of_decide_eq_true h)) (fun h => hf (of_decide_eq_false h))
theorem c_b {b : Bool} (ht : b = true → rwp P N x Q ρ w) (hf : b = false → rwp P N y Q ρ w) (hc : ev ρ c = .bool b := by ((try simp only [ev_tmp, ev_const, ev_func, get_put, get_args, get_putL, get_putL_nil, Nat.reduceEqDiff, reduceIte, List.getD_cons_zero, List.getD_cons_succ, List.getD_nil]); first | done | with_reducible rfl)) : rwp P N (.cond c x y) Q ρ w := r_cond hc ht hf
theorem ret1 {t : Tmp} {R : Value → World → Prop} {v : Value} (h : R v w) (hv : get ρ t = v := by ((try simp only [ev_tmp, ev_const, ev_func, get_put, get_args, get_putL, get_putL_nil, Nat.reduceEqDiff, reduceIte, List.getD_cons_zero, List.getD_cons_succ, List.getD_nil, Bool.not_true, Bool.not_false]); first | done | with_reducible rfl)) : retQ P [.tmp t] R .ret ρ w := retQ_1 hv h
theorem ret2 {t u : Tmp} {R : Value → World → Prop} {v x : Value} (h : R (.tuple #[v, x]) w) (hv : get ρ t = v := by ((try simp only [ev_tmp, ev_const, ev_func, get_put, get_args, get_putL, get_putL_nil, Nat.reduceEqDiff, reduceIte, List.getD_cons_zero, List.getD_cons_succ, List.getD_nil, Bool.not_true, Bool.not_false]); first | done | with_reducible rfl)) (hx : get ρ u = x := by ((try simp only [ev_tmp, ev_const, ev_func, get_put, get_args, get_putL, get_putL_nil, Nat.reduceEqDiff, reduceIte, List.getD_cons_zero, List.getD_cons_succ, List.getD_nil, Bool.not_true, Bool.not_false]); first | done | with_reducible rfl)) : retQ P [.tmp t, .tmp u] R .ret ρ w := retQ_2 hv hx h
theorem ret3 {t u s : Tmp} {R : Value → World → Prop} {v x y : Value} (h : R (.tuple #[v, x, y]) w) (hv : get ρ t = v := by ((try simp only [ev_tmp, ev_const, ev_func, get_put, get_args, get_putL, get_putL_nil, Nat.reduceEqDiff, reduceIte, List.getD_cons_zero, List.getD_cons_succ, List.getD_nil, Bool.not_true, Bool.not_false]); first | done | with_reducible rfl)) (hx : get ρ u = x := by ((try simp only [ev_tmp, ev_const, ev_func, get_put, get_args, get_putL, get_putL_nil, Nat.reduceEqDiff, reduceIte, List.getD_cons_zero, List.getD_cons_succ, List.getD_nil, Bool.not_true, Bool.not_false]); first | done | with_reducible rfl)) (hy : get ρ s = y := by ((try simp only [ev_tmp, ev_const, ev_func, get_put, get_args, get_putL, get_putL_nil, Nat.reduceEqDiff, reduceIte, List.getD_cons_zero, List.getD_cons_succ, List.getD_nil, Bool.not_true, Bool.not_false]); first | done | with_reducible rfl)) : retQ P [.tmp t, .tmp u, .tmp s] R .ret ρ w := retQ_3 hv hx hy h
end
/-! regions that draw their order -/
section
variable {P : Program} {N : Nat} {ops : Array Oper} {π : List Nat} {S : World → Prop} {K : Env → World → Prop} {ρ : Env} {w : World}
variable {i : Nat} {d : Nat} {op : Op} {ty : TypeId} {pos : String} {after : Array Edge} {g : Option (Nat × Bool)}
class Draws (P : Program) : Prop where eq : P.follows .mixedOrders = true
/-- In the order of the text. -/
theorem d_region {Q : Post} {id : Nat} [hm : Draws P] (h : ∀ w0, Ext w w0 → w0.heap.size = w.heap.size → dops P N ops (List.range ops.size) (Ext w0) (fun ρ w => Q .normal ρ w) 0 ρ w0) : rwp P N (.region id ops true) Q ρ w :=
  r_draw _ (by simp) _ hm.eq (Ext.refl _) (h _ (Ext.drew' w) rfl)
/-- In an order of one's own. -/
theorem d_order {Q : Post} {id : Nat} [hm : Draws P] (π : List Nat) (hπ : π.length = ops.size := by rfl) (h : ∀ w0, Ext w w0 → w0.heap.size = w.heap.size → dops P N ops π (Ext w0) (fun ρ w => Q .normal ρ w) 0 ρ w0) : rwp P N (.region id ops true) Q ρ w :=
  r_draw _ hπ _ hm.eq (Ext.refl _) (h _ (Ext.drew' w) rfl)
theorem da {v : Value} {w0 : World} (hi : opAt ops π i = some ⟨some d, op, ty, pos, after, g⟩ := by exact rfl) (hs : Region.noSelect ops = true := by decide +kernel) (ht : takeOk ops π i = true := by decide +kernel) (hd : d < N := by decide) (hg : Wants ops ρ g := by first | exact True.intro | exact ⟨_, rfl, by ((try simp only [ev_tmp, ev_const, ev_func, get_put, get_args, get_putL, get_putL_nil, Nat.reduceEqDiff, reduceIte, List.getD_cons_zero, List.getD_cons_succ, List.getD_nil, Bool.not_true, Bool.not_false]); first | done | with_reducible rfl)⟩)
    (h : RdS P op ty ρ w0 v := by first | exact rs_move (by ((try simp only [ev_tmp, ev_const, ev_func, get_put, get_args, get_putL, get_putL_nil, Nat.reduceEqDiff, reduceIte, List.getD_cons_zero, List.getD_cons_succ, List.getD_nil]); first | done | with_reducible rfl)) | exact rs_assign (by ((try simp only [ev_tmp, ev_const, ev_func, get_put, get_args, get_putL, get_putL_nil, Nat.reduceEqDiff, reduceIte, List.getD_cons_zero, List.getD_cons_succ, List.getD_nil]); first | done | with_reducible rfl)) | (refine rs_index (by ((try simp only [ev_tmp, ev_const, ev_func, get_put, get_args, get_putL, get_putL_nil, Nat.reduceEqDiff, reduceIte, List.getD_cons_zero, List.getD_cons_succ, List.getD_nil]); first | done | with_reducible rfl)) (by ((try simp only [ev_tmp, ev_const, ev_func, get_put, get_args, get_putL, get_putL_nil, Nat.reduceEqDiff, reduceIte, List.getD_cons_zero, List.getD_cons_succ, List.getD_nil]); first | done | with_reducible rfl)) ?_ ?_ <;> omega) | (refine rs_load_ints (by ((try simp only [ev_tmp, ev_const, ev_func, get_put, get_args, get_putL, get_putL_nil, Nat.reduceEqDiff, reduceIte, List.getD_cons_zero, List.getD_cons_succ, List.getD_nil]); first | done | with_reducible rfl)) ?_ <;> omega) | (refine rs_load_rows (by ((try simp only [ev_tmp, ev_const, ev_func, get_put, get_args, get_putL, get_putL_nil, Nat.reduceEqDiff, reduceIte, List.getD_cons_zero, List.getD_cons_succ, List.getD_nil]); first | done | with_reducible rfl)) ?_ <;> omega) | (refine rs_load_rowss (by ((try simp only [ev_tmp, ev_const, ev_func, get_put, get_args, get_putL, get_putL_nil, Nat.reduceEqDiff, reduceIte, List.getD_cons_zero, List.getD_cons_succ, List.getD_nil]); first | done | with_reducible rfl)) ?_ <;> omega) | exact rs_load_cell (by ((try simp only [ev_tmp, ev_const, ev_func, get_put, get_args, get_putL, get_putL_nil, Nat.reduceEqDiff, reduceIte, List.getD_cons_zero, List.getD_cons_succ, List.getD_nil]); first | done | with_reducible rfl)) | exact rs_load_agg3 (by ((try simp only [ev_tmp, ev_const, ev_func, get_put, get_args, get_putL, get_putL_nil, Nat.reduceEqDiff, reduceIte, List.getD_cons_zero, List.getD_cons_succ, List.getD_nil]); first | done | with_reducible rfl)) | exact rs_field (by ((try simp only [ev_tmp, ev_const, ev_func, get_put, get_args, get_putL, get_putL_nil, Nat.reduceEqDiff, reduceIte, List.getD_cons_zero, List.getD_cons_succ, List.getD_nil]); first | done | with_reducible rfl)) | exact rs_load_agg3o (by ((try simp only [ev_tmp, ev_const, ev_func, get_put, get_args, get_putL, get_putL_nil, Nat.reduceEqDiff, reduceIte, List.getD_cons_zero, List.getD_cons_succ, List.getD_nil]); first | done | with_reducible rfl)) | exact rs_fieldo0 (by ((try simp only [ev_tmp, ev_const, ev_func, get_put, get_args, get_putL, get_putL_nil, Nat.reduceEqDiff, reduceIte, List.getD_cons_zero, List.getD_cons_succ, List.getD_nil]); first | done | with_reducible rfl)) | exact rs_fieldo (by ((try simp only [ev_tmp, ev_const, ev_func, get_put, get_args, get_putL, get_putL_nil, Nat.reduceEqDiff, reduceIte, List.getD_cons_zero, List.getD_cons_succ, List.getD_nil]); first | done | with_reducible rfl)) | exact rs_load_agg7 (by ((try simp only [ev_tmp, ev_const, ev_func, get_put, get_args, get_putL, get_putL_nil, Nat.reduceEqDiff, reduceIte, List.getD_cons_zero, List.getD_cons_succ, List.getD_nil]); first | done | with_reducible rfl)) | exact rs_len (by ((try simp only [ev_tmp, ev_const, ev_func, get_put, get_args, get_putL, get_putL_nil, Nat.reduceEqDiff, reduceIte, List.getD_cons_zero, List.getD_cons_succ, List.getD_nil]); first | done | with_reducible rfl)) | (refine rs_add (by ((try simp only [ev_tmp, ev_const, ev_func, get_put, get_args, get_putL, get_putL_nil, Nat.reduceEqDiff, reduceIte, List.getD_cons_zero, List.getD_cons_succ, List.getD_nil]); first | done | with_reducible rfl)) (by ((try simp only [ev_tmp, ev_const, ev_func, get_put, get_args, get_putL, get_putL_nil, Nat.reduceEqDiff, reduceIte, List.getD_cons_zero, List.getD_cons_succ, List.getD_nil]); first | done | with_reducible rfl)) ?_ <;> omega) | (refine rs_sub (by ((try simp only [ev_tmp, ev_const, ev_func, get_put, get_args, get_putL, get_putL_nil, Nat.reduceEqDiff, reduceIte, List.getD_cons_zero, List.getD_cons_succ, List.getD_nil]); first | done | with_reducible rfl)) (by ((try simp only [ev_tmp, ev_const, ev_func, get_put, get_args, get_putL, get_putL_nil, Nat.reduceEqDiff, reduceIte, List.getD_cons_zero, List.getD_cons_succ, List.getD_nil]); first | done | with_reducible rfl)) ?_ <;> omega) | exact rs_lss (by ((try simp only [ev_tmp, ev_const, ev_func, get_put, get_args, get_putL, get_putL_nil, Nat.reduceEqDiff, reduceIte, List.getD_cons_zero, List.getD_cons_succ, List.getD_nil]); first | done | with_reducible rfl)) (by ((try simp only [ev_tmp, ev_const, ev_func, get_put, get_args, get_putL, get_putL_nil, Nat.reduceEqDiff, reduceIte, List.getD_cons_zero, List.getD_cons_succ, List.getD_nil]); first | done | with_reducible rfl)) | exact rs_geq (by ((try simp only [ev_tmp, ev_const, ev_func, get_put, get_args, get_putL, get_putL_nil, Nat.reduceEqDiff, reduceIte, List.getD_cons_zero, List.getD_cons_succ, List.getD_nil]); first | done | with_reducible rfl)) (by ((try simp only [ev_tmp, ev_const, ev_func, get_put, get_args, get_putL, get_putL_nil, Nat.reduceEqDiff, reduceIte, List.getD_cons_zero, List.getD_cons_succ, List.getD_nil]); first | done | with_reducible rfl)) | exact rs_leq (by ((try simp only [ev_tmp, ev_const, ev_func, get_put, get_args, get_putL, get_putL_nil, Nat.reduceEqDiff, reduceIte, List.getD_cons_zero, List.getD_cons_succ, List.getD_nil]); first | done | with_reducible rfl)) (by ((try simp only [ev_tmp, ev_const, ev_func, get_put, get_args, get_putL, get_putL_nil, Nat.reduceEqDiff, reduceIte, List.getD_cons_zero, List.getD_cons_succ, List.getD_nil]); first | done | with_reducible rfl)) | exact rs_gtr (by ((try simp only [ev_tmp, ev_const, ev_func, get_put, get_args, get_putL, get_putL_nil, Nat.reduceEqDiff, reduceIte, List.getD_cons_zero, List.getD_cons_succ, List.getD_nil]); first | done | with_reducible rfl)) (by ((try simp only [ev_tmp, ev_const, ev_func, get_put, get_args, get_putL, get_putL_nil, Nat.reduceEqDiff, reduceIte, List.getD_cons_zero, List.getD_cons_succ, List.getD_nil]); first | done | with_reducible rfl)) | exact rs_eql (by ((try simp only [ev_tmp, ev_const, ev_func, get_put, get_args, get_putL, get_putL_nil, Nat.reduceEqDiff, reduceIte, List.getD_cons_zero, List.getD_cons_succ, List.getD_nil]); first | done | with_reducible rfl)) (by ((try simp only [ev_tmp, ev_const, ev_func, get_put, get_args, get_putL, get_putL_nil, Nat.reduceEqDiff, reduceIte, List.getD_cons_zero, List.getD_cons_succ, List.getD_nil]); first | done | with_reducible rfl)) | exact rs_neq (by ((try simp only [ev_tmp, ev_const, ev_func, get_put, get_args, get_putL, get_putL_nil, Nat.reduceEqDiff, reduceIte, List.getD_cons_zero, List.getD_cons_succ, List.getD_nil]); first | done | with_reducible rfl)) (by ((try simp only [ev_tmp, ev_const, ev_func, get_put, get_args, get_putL, get_putL_nil, Nat.reduceEqDiff, reduceIte, List.getD_cons_zero, List.getD_cons_succ, List.getD_nil]); first | done | with_reducible rfl)) | exact rs_not (by ((try simp only [ev_tmp, ev_const, ev_func, get_put, get_args, get_putL, get_putL_nil, Nat.reduceEqDiff, reduceIte, List.getD_cons_zero, List.getD_cons_succ, List.getD_nil]); first | done | with_reducible rfl)) | (refine rs_neg (by ((try simp only [ev_tmp, ev_const, ev_func, get_put, get_args, get_putL, get_putL_nil, Nat.reduceEqDiff, reduceIte, List.getD_cons_zero, List.getD_cons_succ, List.getD_nil]); first | done | with_reducible rfl)) ?_ <;> omega) | exact rs_nilCheck (by ((try simp only [ev_tmp, ev_const, ev_func, get_put, get_args, get_putL, get_putL_nil, Nat.reduceEqDiff, reduceIte, List.getD_cons_zero, List.getD_cons_succ, List.getD_nil]); first | done | with_reducible rfl)) | exact rs_pick_t (by ((try simp only [ev_tmp, ev_const, ev_func, get_put, get_args, get_putL, get_putL_nil, Nat.reduceEqDiff, reduceIte, List.getD_cons_zero, List.getD_cons_succ, List.getD_nil]); first | done | with_reducible rfl)) (by ((try simp only [ev_tmp, ev_const, ev_func, get_put, get_args, get_putL, get_putL_nil, Nat.reduceEqDiff, reduceIte, List.getD_cons_zero, List.getD_cons_succ, List.getD_nil]); first | done | with_reducible rfl)) | exact rs_pick_f (by ((try simp only [ev_tmp, ev_const, ev_func, get_put, get_args, get_putL, get_putL_nil, Nat.reduceEqDiff, reduceIte, List.getD_cons_zero, List.getD_cons_succ, List.getD_nil]); first | done | with_reducible rfl)) (by ((try simp only [ev_tmp, ev_const, ev_func, get_put, get_args, get_putL, get_putL_nil, Nat.reduceEqDiff, reduceIte, List.getD_cons_zero, List.getD_cons_succ, List.getD_nil]); first | done | with_reducible rfl)) | exact rs_ext2a (by ((try simp only [ev_tmp, ev_const, ev_func, get_put, get_args, get_putL, get_putL_nil, Nat.reduceEqDiff, reduceIte, List.getD_cons_zero, List.getD_cons_succ, List.getD_nil]); first | done | with_reducible rfl)) | exact rs_ext2b (by ((try simp only [ev_tmp, ev_const, ev_func, get_put, get_args, get_putL, get_putL_nil, Nat.reduceEqDiff, reduceIte, List.getD_cons_zero, List.getD_cons_succ, List.getD_nil]); first | done | with_reducible rfl)) | exact rs_ext3a (by ((try simp only [ev_tmp, ev_const, ev_func, get_put, get_args, get_putL, get_putL_nil, Nat.reduceEqDiff, reduceIte, List.getD_cons_zero, List.getD_cons_succ, List.getD_nil]); first | done | with_reducible rfl)) | exact rs_ext3b (by ((try simp only [ev_tmp, ev_const, ev_func, get_put, get_args, get_putL, get_putL_nil, Nat.reduceEqDiff, reduceIte, List.getD_cons_zero, List.getD_cons_succ, List.getD_nil]); first | done | with_reducible rfl)) | exact rs_ext3c (by ((try simp only [ev_tmp, ev_const, ev_func, get_put, get_args, get_putL, get_putL_nil, Nat.reduceEqDiff, reduceIte, List.getD_cons_zero, List.getD_cons_succ, List.getD_nil]); first | done | with_reducible rfl)) | exact rs_ext4a (by ((try simp only [ev_tmp, ev_const, ev_func, get_put, get_args, get_putL, get_putL_nil, Nat.reduceEqDiff, reduceIte, List.getD_cons_zero, List.getD_cons_succ, List.getD_nil]); first | done | with_reducible rfl)) | exact rs_ext4b (by ((try simp only [ev_tmp, ev_const, ev_func, get_put, get_args, get_putL, get_putL_nil, Nat.reduceEqDiff, reduceIte, List.getD_cons_zero, List.getD_cons_succ, List.getD_nil]); first | done | with_reducible rfl)) | exact rs_ext4c (by ((try simp only [ev_tmp, ev_const, ev_func, get_put, get_args, get_putL, get_putL_nil, Nat.reduceEqDiff, reduceIte, List.getD_cons_zero, List.getD_cons_succ, List.getD_nil]); first | done | with_reducible rfl)) | exact rs_ext4d (by ((try simp only [ev_tmp, ev_const, ev_func, get_put, get_args, get_putL, get_putL_nil, Nat.reduceEqDiff, reduceIte, List.getD_cons_zero, List.getD_cons_succ, List.getD_nil]); first | done | with_reducible rfl)) | exact rs_eqnil (by ((try simp only [ev_tmp, ev_const, ev_func, get_put, get_args, get_putL, get_putL_nil, Nat.reduceEqDiff, reduceIte, List.getD_cons_zero, List.getD_cons_succ, List.getD_nil]); first | done | with_reducible rfl)) | exact rs_neqnil_t (by ((try simp only [ev_tmp, ev_const, ev_func, get_put, get_args, get_putL, get_putL_nil, Nat.reduceEqDiff, reduceIte, List.getD_cons_zero, List.getD_cons_succ, List.getD_nil]); first | done | with_reducible rfl)) | exact rs_neqnil_f (by ((try simp only [ev_tmp, ev_const, ev_func, get_put, get_args, get_putL, get_putL_nil, Nat.reduceEqDiff, reduceIte, List.getD_cons_zero, List.getD_cons_succ, List.getD_nil]); first | done | with_reducible rfl)) | (refine rs_slice_l (by ((try simp only [ev_tmp, ev_const, ev_func, get_put, get_args, get_putL, get_putL_nil, Nat.reduceEqDiff, reduceIte, List.getD_cons_zero, List.getD_cons_succ, List.getD_nil]); first | done | with_reducible rfl)) (by ((try simp only [ev_tmp, ev_const, ev_func, get_put, get_args, get_putL, get_putL_nil, Nat.reduceEqDiff, reduceIte, List.getD_cons_zero, List.getD_cons_succ, List.getD_nil]); first | done | with_reducible rfl)) ?_ ?_ <;> omega) | (refine rs_slice_h (by ((try simp only [ev_tmp, ev_const, ev_func, get_put, get_args, get_putL, get_putL_nil, Nat.reduceEqDiff, reduceIte, List.getD_cons_zero, List.getD_cons_succ, List.getD_nil]); first | done | with_reducible rfl)) (by ((try simp only [ev_tmp, ev_const, ev_func, get_put, get_args, get_putL, get_putL_nil, Nat.reduceEqDiff, reduceIte, List.getD_cons_zero, List.getD_cons_succ, List.getD_nil]); first | done | with_reducible rfl)) ?_ ?_ <;> omega) | (refine rs_slice_lh (by ((try simp only [ev_tmp, ev_const, ev_func, get_put, get_args, get_putL, get_putL_nil, Nat.reduceEqDiff, reduceIte, List.getD_cons_zero, List.getD_cons_succ, List.getD_nil]); first | done | with_reducible rfl)) (by ((try simp only [ev_tmp, ev_const, ev_func, get_put, get_args, get_putL, get_putL_nil, Nat.reduceEqDiff, reduceIte, List.getD_cons_zero, List.getD_cons_succ, List.getD_nil]); first | done | with_reducible rfl)) (by ((try simp only [ev_tmp, ev_const, ev_func, get_put, get_args, get_putL, get_putL_nil, Nat.reduceEqDiff, reduceIte, List.getD_cons_zero, List.getD_cons_succ, List.getD_nil]); first | done | with_reducible rfl)) ?_ ?_ ?_ <;> omega) | (refine rs_quo (by ((try simp only [ev_tmp, ev_const, ev_func, get_put, get_args, get_putL, get_putL_nil, Nat.reduceEqDiff, reduceIte, List.getD_cons_zero, List.getD_cons_succ, List.getD_nil]); first | done | with_reducible rfl)) (by ((try simp only [ev_tmp, ev_const, ev_func, get_put, get_args, get_putL, get_putL_nil, Nat.reduceEqDiff, reduceIte, List.getD_cons_zero, List.getD_cons_succ, List.getD_nil]); first | done | with_reducible rfl)) ?_ <;> omega) | (refine rs_rem (by ((try simp only [ev_tmp, ev_const, ev_func, get_put, get_args, get_putL, get_putL_nil, Nat.reduceEqDiff, reduceIte, List.getD_cons_zero, List.getD_cons_succ, List.getD_nil]); first | done | with_reducible rfl)) (by ((try simp only [ev_tmp, ev_const, ev_func, get_put, get_args, get_putL, get_putL_nil, Nat.reduceEqDiff, reduceIte, List.getD_cons_zero, List.getD_cons_succ, List.getD_nil]); first | done | with_reducible rfl)) ?_ <;> omega)) (next : dops P N ops π (Ext w0) K (i + 1) (put ρ d v) w) : dops P N ops π (Ext w0) K i ρ w := dt_rd hi hs ht hd hg h.at_ next
theorem dsk {j t : Nat} {b : Bool} (hi : opAt ops π i = some ⟨some d, op, ty, pos, after, some (j, b)⟩ := by exact rfl) (hs : Region.noSelect ops = true := by decide +kernel) (ht : takeOk ops π i = true := by decide +kernel) (hd : d < N := by decide)
    (htt : (ops[j]?).bind (·.dst) = some t := by exact rfl) (hb : get ρ t = .bool (!b) := by ((try simp only [ev_tmp, ev_const, ev_func, get_put, get_args, get_putL, get_putL_nil, Nat.reduceEqDiff, reduceIte, List.getD_cons_zero, List.getD_cons_succ, List.getD_nil, Bool.not_true, Bool.not_false]); first | done | with_reducible rfl)) (next : dops P N ops π S K (i + 1) (put ρ d undef) w) : dops P N ops π S K i ρ w := dt_skip hi hs ht hd htt hb next
theorem dsku {j t : Nat} {b : Bool} (hi : opAt ops π i = some ⟨some d, op, ty, pos, after, some (j, b)⟩ := by exact rfl) (hs : Region.noSelect ops = true := by decide +kernel) (ht : takeOk ops π i = true := by decide +kernel) (hd : d < N := by decide)
    (htt : (ops[j]?).bind (·.dst) = some t := by exact rfl) (hb : get ρ t = undef := by ((try simp only [ev_tmp, ev_const, ev_func, get_put, get_args, get_putL, get_putL_nil, Nat.reduceEqDiff, reduceIte, List.getD_cons_zero, List.getD_cons_succ, List.getD_nil, Bool.not_true, Bool.not_false]); first | done | with_reducible rfl)) (next : dops P N ops π S K (i + 1) (put ρ d undef) w) : dops P N ops π S K i ρ w := dt_skipu hi hs ht hd htt hb next
theorem dc {f : FuncId} {args : Array Value} {R : Value → World → Prop} {w0 : World} (hc : Calls P f args w (Ret R)) (hi : opAt ops π i = some ⟨some d, op, ty, pos, after, g⟩ := by exact rfl) (hn : nextOk ops π i = true := by decide +kernel) (hd : d < N := by decide)
    (ho : Cl P op ty ρ f args := by ((first | refine cl_func ?_ | refine cl_fval ((by ((try simp only [ev_tmp, ev_const, ev_func, get_put, get_args, get_putL, get_putL_nil, Nat.reduceEqDiff, reduceIte, List.getD_cons_zero, List.getD_cons_succ, List.getD_nil]); first | done | with_reducible rfl))) ?_); ((try simp only [List.map_toArray, List.map_cons, List.map_nil, ev_tmp, ev_const, ev_func, get_put, get_args, get_putL, get_putL_nil, Nat.reduceEqDiff, reduceIte, List.getD_cons_zero, List.getD_cons_succ, List.getD_nil]); first | done | with_reducible rfl | rfl))) (hg : Wants ops ρ g := by first | exact True.intro | exact ⟨_, rfl, by ((try simp only [ev_tmp, ev_const, ev_func, get_put, get_args, get_putL, get_putL_nil, Nat.reduceEqDiff, reduceIte, List.getD_cons_zero, List.getD_cons_succ, List.getD_nil, Bool.not_true, Bool.not_false]); first | done | with_reducible rfl)⟩) (next : ∀ v w', R v w' → (Ext w0 w → Ext w0 w') ∧ dops P N ops π (Ext w0) K (i + 1) (put ρ d v) w') : dops P N ops π (Ext w0) K i ρ w := dt_call hi hn hd hg ho hc next
theorem dsp {b : Bool} (ht : b = true → dops P N ops π S K i (put ρ d (.bool true)) w) (hf : b = false → dops P N ops π S K i (put ρ d (.bool false)) w) : dops P N ops π S K i (put ρ d (.bool b)) w := by
  cases b
  · exact hf rfl
  · exact ht rfl
theorem dspd {p : Prop} [Decidable p] (ht : p → dops P N ops π S K i (put ρ d (.bool true)) w) (hf : ¬ p → dops P N ops π S K i (put ρ d (.bool false)) w) : dops P N ops π S K i (put ρ d (.bool (decide p))) w := by
  by_cases h : p
  · rw [decide_eq_true h]; exact ht h
  · rw [decide_eq_false h]; exact hf h
theorem d_end (hd : doneOk ops π i = true := by decide +kernel) (h : K ρ w) : dops P N ops π S K i ρ w := dt_end hd h
end
/-! the walk itself, as default arguments: what is left of the goal is k -/
structure Keep (X : Prop) : Prop where
  out : X
theorem go {G X : Prop} (k : X) (h : Keep X → G := by intro k; (repeat (first | (show rops _ _ _ _ (_ :: _) _ _; first | refine ra (next := ?_) | refine rk (next := ?_) | refine rku (next := ?_)) | refine st_end ?_ | refine thn_normal ?_ | refine r_seq ?_ | refine r_region rfl ?_ | refine thn_exit ?_ | refine thn_ret ?_ | refine inBlk_normal ?_ | refine inBlk_ret ?_ | refine inBlk_hit ?_ | refine inBlk_miss (by decide) ?_ | refine forQ_exit ?_ | refine forQ_ret ?_ | refine loopQ_exit ?_ | refine loopQ_ret ?_ | refine r_block ?_ | refine r_skip ?_ | refine r_exit ?_ | refine r_ret ?_ | (show rwp _ _ (.cond _ _ _) _ _ _; first | refine c_t (h := ?_) | refine c_f (h := ?_)))); exact k.out) : G := h ⟨k⟩
theorem dgo {G X : Prop} (k : X) (h : Keep X → G := by intro k; (repeat (first | refine da (next := ?_) | refine dsk (next := ?_) | refine dsku (next := ?_))); exact k.out) : G := h ⟨k⟩
theorem hasP {ρ : Env} {L : List (Nat × Value)} (h : Has ρ L := by ((try simp only [Has, ev_tmp, ev_const, ev_func, get_put, get_args, get_putL, get_putL_nil, Nat.reduceEqDiff, reduceIte, List.getD_cons_zero, List.getD_cons_succ, List.getD_nil]); repeat' (first | exact True.intro | apply And.intro | with_reducible rfl | exact int_congr (by first | omega | rfl)))) : Has ρ L := h
end Go.Pc

/-
  The reading rules once more, for regions that draw their order and write a block: what is read elsewhere is read whether the block has been written or not.
  Conditions: none; made by program out of the reading rules.
-/
namespace Go.Pc
open Go Go.RowKit
structure RdC (P : Program) (g : Nat) (o : Op) (ty : TypeId) (ρ : Env) (w : World) (v : Value) : Prop where
  at_ : ∀ w', Chg g w w' → Rd P o ty ρ w' v
section
variable {P : Program} {g : Nat} {ρ : Env} {w : World} {ty : TypeId}
theorem rz_move {x : Operand} {v : Value} (h : ev ρ x = v) : RdC P g (.move x) ty ρ w v := ⟨fun w' hch => @id (Rd P (.move x) ty ρ w' v) (by exact rd_move h)⟩
theorem rz_assign {x : Operand} {v : Value} (h : ev ρ x = v) : RdC P g (.assign x) ty ρ w v := ⟨fun w' hch => @id (Rd P (.assign x) ty ρ w' v) (by exact rd_assign h)⟩
theorem rz_len {x : Operand} {v : Value} {t e n : Nat} (h : ev ρ x = v) [ht : SlT P t e] [hl : Len w v n] : RdC P g (.call { callee := .builtin .len, args := #[x], argTypes := #[t] }) ty ρ w (.int .i64 n) := ⟨fun w' hch => @id (Rd P (.call { callee := .builtin .len, args := #[x], argTypes := #[t] }) ty ρ w' (.int .i64 n)) (by have hl2 : Len w' v n := ⟨hl.ex⟩; have := hch; exact rd_len h)⟩
theorem rz_index {x ix : Operand} {v : Value} {k : Int} {t e n m bytes : Nat} {z : Value} (h : ev ρ x = v) (hk : ev ρ ix = .int .i64 k) [ht : SlT P t e] [he : ElT P e 1 bytes z] [hl : Len w v n] [hm : NatOf k m]
    (h0 : 0 ≤ k) (h1 : k < n) : RdC P g (.indexAddr t x ix) ty ρ w (eptr v m) := ⟨fun w' hch => @id (Rd P (.indexAddr t x ix) ty ρ w' (eptr v m)) (by have hl2 : Len w' v n := ⟨hl.ex⟩; have := hch; exact rd_index h hk h0 h1)⟩
theorem rz_load_ints {x : Operand} {v : Value} {t lo hi m : Nat} {xs : List Int} (h : ev ρ x = eptr v m) [hp : PlainT P t] [hx : Ints lo hi w v xs] [hap : Apart lo hi g] (hm : m < xs.length) : RdC P g (.load t x) ty ρ w (.int .i64 (xs.getD m 0)) := ⟨fun w' hch => @id (Rd P (.load t x) ty ρ w' (.int .i64 (xs.getD m 0))) (by have := hch; exact rd_load_ints h hm)⟩
theorem rz_load_rows {x : Operand} {v : Value} {t lo hi m : Nat} {us : List Value} {xss : List (List Int)} (h : ev ρ x = eptr v m) [hp : PlainT P t] [hx : Rows lo hi w v us xss] [hap : Apart lo hi g] (hm : m < xss.length) : RdC P g (.load t x) ty ρ w (rowAt v us m) := ⟨fun w' hch => @id (Rd P (.load t x) ty ρ w' (rowAt v us m)) (by have := hch; exact rd_load_rows h hm)⟩
theorem rz_load_rowss {x : Operand} {v : Value} {t lo hi m : Nat} {us : List Value} {uss : List (List Value)} {xsss : List (List (List Int))} (h : ev ρ x = eptr v m) [hp : PlainT P t] [hx : Rowss lo hi w v us uss xsss] [hap : Apart lo hi g] (hm : m < xsss.length) : RdC P g (.load t x) ty ρ w (rowAt v us m) := ⟨fun w' hch => @id (Rd P (.load t x) ty ρ w' (rowAt v us m)) (by have := hch; exact rd_load_rowss h hm)⟩
theorem rz_load_cell {x : Operand} {b off t : Nat} {v : Value} (h : ev ρ x = .pointer (some ⟨b, off, none⟩)) [hp : PlainT P t] [hx : Cell w b off v] [hap : Apart b (b + 1) g] : RdC P g (.load t x) ty ρ w v := ⟨fun w' hch => @id (Rd P (.load t x) ty ρ w' v) (by have := hch; exact rd_load_cell h)⟩
theorem rz_load_agg3 {x : Operand} {b t : Nat} {v0 v1 v2 : Value} (h : ev ρ x = .pointer (some ⟨b, 0, none⟩)) [hp : StructT P t 3] [h0 : Cell w b 0 v0] [h1 : Cell w b 1 v1] [h2 : Cell w b 2 v2] [hap : Apart b (b + 1) g] : RdC P g (.load t x) ty ρ w (.agg #[v0, v1, v2]) := ⟨fun w' hch => @id (Rd P (.load t x) ty ρ w' (.agg #[v0, v1, v2])) (by have := hch; exact rd_load_agg3 h)⟩
theorem rz_field {x : Operand} {b s f off : Nat} (h : ev ρ x = .pointer (some ⟨b, 0, none⟩)) [hf : FldT P s f off] : RdC P g (.fieldAddr s x f) ty ρ w (.pointer (some ⟨b, off, none⟩)) := ⟨fun w' hch => @id (Rd P (.fieldAddr s x f) ty ρ w' (.pointer (some ⟨b, off, none⟩))) (by exact rd_field h)⟩
theorem rz_load_agg3o {x : Operand} {b o t : Nat} {v0 v1 v2 : Value} (h : ev ρ x = .pointer (some ⟨b, o, none⟩)) [hp : StructT P t 3] [h0 : Cell w b o v0] [h1 : Cell w b (o + 1) v1] [h2 : Cell w b (o + 2) v2] [hap : Apart b (b + 1) g] : RdC P g (.load t x) ty ρ w (.agg #[v0, v1, v2]) := ⟨fun w' hch => @id (Rd P (.load t x) ty ρ w' (.agg #[v0, v1, v2])) (by have := hch; exact rd_load_agg3o h)⟩
theorem rz_load_agg7 {x : Operand} {b t : Nat} {v0 v1 v2 v3 v4 v5 v6 : Value} (h : ev ρ x = .pointer (some ⟨b, 0, none⟩)) [hp : StructT P t 7] [h0 : Cell w b 0 v0] [h1 : Cell w b 1 v1] [h2 : Cell w b 2 v2] [h3 : Cell w b 3 v3] [h4 : Cell w b 4 v4] [h5 : Cell w b 5 v5] [h6 : Cell w b 6 v6] [hap : Apart b (b + 1) g] : RdC P g (.load t x) ty ρ w (.agg #[v0, v1, v2, v3, v4, v5, v6]) := ⟨fun w' hch => @id (Rd P (.load t x) ty ρ w' (.agg #[v0, v1, v2, v3, v4, v5, v6])) (by have := hch; exact rd_load_agg7 h)⟩
theorem rz_fieldo0 {x : Operand} {b o s f : Nat} (h : ev ρ x = .pointer (some ⟨b, o, none⟩)) [hf : FldT P s f 0] : RdC P g (.fieldAddr s x f) ty ρ w (.pointer (some ⟨b, o, none⟩)) := ⟨fun w' hch => @id (Rd P (.fieldAddr s x f) ty ρ w' (.pointer (some ⟨b, o, none⟩))) (by exact rd_fieldo0 h)⟩
theorem rz_fieldo {x : Operand} {b o s f off : Nat} (h : ev ρ x = .pointer (some ⟨b, o, none⟩)) [hf : FldT P s f off] : RdC P g (.fieldAddr s x f) ty ρ w (.pointer (some ⟨b, o + off, none⟩)) := ⟨fun w' hch => @id (Rd P (.fieldAddr s x f) ty ρ w' (.pointer (some ⟨b, o + off, none⟩))) (by exact rd_fieldo h)⟩
theorem rz_nilCheck {x : Operand} {a : Addr} (h : ev ρ x = .pointer (some a)) : RdC P g (.nilCheck x) ty ρ w (.pointer (some a)) := ⟨fun w' hch => @id (Rd P (.nilCheck x) ty ρ w' (.pointer (some a))) (by exact rd_nilCheck h)⟩
theorem rz_add {x y : Operand} {a b : Int} {tx tyy : TypeId} (h : ev ρ x = .int .i64 a) (k : ev ρ y = .int .i64 b) (hb : -9223372036854775808 ≤ a + b ∧ a + b ≤ 9223372036854775807) : RdC P g (.binOp .add tx x y tyy) ty ρ w (.int .i64 (a + b)) := ⟨fun w' hch => @id (Rd P (.binOp .add tx x y tyy) ty ρ w' (.int .i64 (a + b))) (by exact rd_add h k hb)⟩
theorem rz_sub {x y : Operand} {a b : Int} {tx tyy : TypeId} (h : ev ρ x = .int .i64 a) (k : ev ρ y = .int .i64 b) (hb : -9223372036854775808 ≤ a - b ∧ a - b ≤ 9223372036854775807) : RdC P g (.binOp .sub tx x y tyy) ty ρ w (.int .i64 (a - b)) := ⟨fun w' hch => @id (Rd P (.binOp .sub tx x y tyy) ty ρ w' (.int .i64 (a - b))) (by exact rd_sub h k hb)⟩
theorem rz_quo {x y : Operand} {a b : Int} {tx tyy : TypeId} (h : ev ρ x = .int .i64 a) (k : ev ρ y = .int .i64 b) (hb : 0 ≤ a ∧ a ≤ 9223372036854775807 ∧ 1 ≤ b) : RdC P g (.binOp .quo tx x y tyy) ty ρ w (.int .i64 (a / b)) := ⟨fun w' hch => @id (Rd P (.binOp .quo tx x y tyy) ty ρ w' (.int .i64 (a / b))) (by exact rd_quo h k hb)⟩
theorem rz_rem {x y : Operand} {a b : Int} {tx tyy : TypeId} (h : ev ρ x = .int .i64 a) (k : ev ρ y = .int .i64 b) (hb : 0 ≤ a ∧ 1 ≤ b) : RdC P g (.binOp .rem tx x y tyy) ty ρ w (.int .i64 (a % b)) := ⟨fun w' hch => @id (Rd P (.binOp .rem tx x y tyy) ty ρ w' (.int .i64 (a % b))) (by exact rd_rem h k hb)⟩
theorem rz_lss {x y : Operand} {a b : Int} {tx tyy : TypeId} (h : ev ρ x = .int .i64 a) (k : ev ρ y = .int .i64 b) : RdC P g (.binOp .lss tx x y tyy) ty ρ w (.bool (decide (a < b))) := ⟨fun w' hch => @id (Rd P (.binOp .lss tx x y tyy) ty ρ w' (.bool (decide (a < b)))) (by exact rd_lss h k)⟩
theorem rz_leq {x y : Operand} {a b : Int} {tx tyy : TypeId} (h : ev ρ x = .int .i64 a) (k : ev ρ y = .int .i64 b) : RdC P g (.binOp .leq tx x y tyy) ty ρ w (.bool (decide (a ≤ b))) := ⟨fun w' hch => @id (Rd P (.binOp .leq tx x y tyy) ty ρ w' (.bool (decide (a ≤ b)))) (by exact rd_leq h k)⟩
theorem rz_gtr {x y : Operand} {a b : Int} {tx tyy : TypeId} (h : ev ρ x = .int .i64 a) (k : ev ρ y = .int .i64 b) : RdC P g (.binOp .gtr tx x y tyy) ty ρ w (.bool (decide (b < a))) := ⟨fun w' hch => @id (Rd P (.binOp .gtr tx x y tyy) ty ρ w' (.bool (decide (b < a)))) (by exact rd_gtr h k)⟩
theorem rz_geq {x y : Operand} {a b : Int} {tx tyy : TypeId} (h : ev ρ x = .int .i64 a) (k : ev ρ y = .int .i64 b) : RdC P g (.binOp .geq tx x y tyy) ty ρ w (.bool (decide (b ≤ a))) := ⟨fun w' hch => @id (Rd P (.binOp .geq tx x y tyy) ty ρ w' (.bool (decide (b ≤ a)))) (by exact rd_geq h k)⟩
theorem rz_eql {x y : Operand} {a b : Int} {tx tyy : TypeId} (h : ev ρ x = .int .i64 a) (k : ev ρ y = .int .i64 b) : RdC P g (.binOp .eql tx x y tyy) ty ρ w (.bool (decide (a = b))) := ⟨fun w' hch => @id (Rd P (.binOp .eql tx x y tyy) ty ρ w' (.bool (decide (a = b)))) (by exact rd_eql h k)⟩
theorem rz_neq {x y : Operand} {a b : Int} {tx tyy : TypeId} (h : ev ρ x = .int .i64 a) (k : ev ρ y = .int .i64 b) : RdC P g (.binOp .neq tx x y tyy) ty ρ w (.bool (decide (a ≠ b))) := ⟨fun w' hch => @id (Rd P (.binOp .neq tx x y tyy) ty ρ w' (.bool (decide (a ≠ b)))) (by exact rd_neq h k)⟩
theorem rz_not {x : Operand} {b : Bool} {tx : TypeId} (h : ev ρ x = .bool b) : RdC P g (.unOp .not tx x) ty ρ w (.bool (!b)) := ⟨fun w' hch => @id (Rd P (.unOp .not tx x) ty ρ w' (.bool (!b))) (by exact rd_not h)⟩
theorem rz_neg {x : Operand} {a : Int} {tx : TypeId} (h : ev ρ x = .int .i64 a) (hb : -9223372036854775807 ≤ a ∧ a ≤ 9223372036854775807) : RdC P g (.unOp .neg tx x) ty ρ w (.int .i64 (-a)) := ⟨fun w' hch => @id (Rd P (.unOp .neg tx x) ty ρ w' (.int .i64 (-a))) (by exact rd_neg h hb)⟩
theorem rz_pick_t {c x y : Operand} {v : Value} (h : ev ρ c = .bool true) (hx : ev ρ x = v) : RdC P g (.pick c x y) ty ρ w v := ⟨fun w' hch => @id (Rd P (.pick c x y) ty ρ w' v) (by exact rd_pick_t h hx)⟩
theorem rz_pick_f {c x y : Operand} {v : Value} (h : ev ρ c = .bool false) (hx : ev ρ y = v) : RdC P g (.pick c x y) ty ρ w v := ⟨fun w' hch => @id (Rd P (.pick c x y) ty ρ w' v) (by exact rd_pick_f h hx)⟩
theorem rz_ext2a {x : Operand} {v0 v1 : Value} (h : ev ρ x = .tuple #[v0, v1]) : RdC P g (.extract x 0) ty ρ w v0 := ⟨fun w' hch => @id (Rd P (.extract x 0) ty ρ w' v0) (by exact rd_ext2a h)⟩
theorem rz_ext2b {x : Operand} {v0 v1 : Value} (h : ev ρ x = .tuple #[v0, v1]) : RdC P g (.extract x 1) ty ρ w v1 := ⟨fun w' hch => @id (Rd P (.extract x 1) ty ρ w' v1) (by exact rd_ext2b h)⟩
theorem rz_ext3a {x : Operand} {v0 v1 v2 : Value} (h : ev ρ x = .tuple #[v0, v1, v2]) : RdC P g (.extract x 0) ty ρ w v0 := ⟨fun w' hch => @id (Rd P (.extract x 0) ty ρ w' v0) (by exact rd_ext3a h)⟩
theorem rz_ext3b {x : Operand} {v0 v1 v2 : Value} (h : ev ρ x = .tuple #[v0, v1, v2]) : RdC P g (.extract x 1) ty ρ w v1 := ⟨fun w' hch => @id (Rd P (.extract x 1) ty ρ w' v1) (by exact rd_ext3b h)⟩
theorem rz_ext3c {x : Operand} {v0 v1 v2 : Value} (h : ev ρ x = .tuple #[v0, v1, v2]) : RdC P g (.extract x 2) ty ρ w v2 := ⟨fun w' hch => @id (Rd P (.extract x 2) ty ρ w' v2) (by exact rd_ext3c h)⟩
theorem rz_ext4a {x : Operand} {v0 v1 v2 v3 : Value} (h : ev ρ x = .tuple #[v0, v1, v2, v3]) : RdC P g (.extract x 0) ty ρ w v0 := ⟨fun w' hch => @id (Rd P (.extract x 0) ty ρ w' v0) (by exact rd_ext4a h)⟩
theorem rz_ext4b {x : Operand} {v0 v1 v2 v3 : Value} (h : ev ρ x = .tuple #[v0, v1, v2, v3]) : RdC P g (.extract x 1) ty ρ w v1 := ⟨fun w' hch => @id (Rd P (.extract x 1) ty ρ w' v1) (by exact rd_ext4b h)⟩
theorem rz_ext4c {x : Operand} {v0 v1 v2 v3 : Value} (h : ev ρ x = .tuple #[v0, v1, v2, v3]) : RdC P g (.extract x 2) ty ρ w v2 := ⟨fun w' hch => @id (Rd P (.extract x 2) ty ρ w' v2) (by exact rd_ext4c h)⟩
theorem rz_ext4d {x : Operand} {v0 v1 v2 v3 : Value} (h : ev ρ x = .tuple #[v0, v1, v2, v3]) : RdC P g (.extract x 3) ty ρ w v3 := ⟨fun w' hch => @id (Rd P (.extract x 3) ty ρ w' v3) (by exact rd_ext4d h)⟩
theorem rz_eqnil {x : Operand} {v : Value} {b : Bool} {t e : TypeId} {tyy : TypeId} (h : ev ρ x = v) [ht : SlT P t e] [hb : NilB v b] : RdC P g (.binOp .eql t x (.const (.slice none 0 0)) tyy) ty ρ w (.bool b) := ⟨fun w' hch => @id (Rd P (.binOp .eql t x (.const (.slice none 0 0)) tyy) ty ρ w' (.bool b)) (by exact rd_eqnil h)⟩
theorem rz_neqnil_t {x : Operand} {v : Value} {t e : TypeId} {tyy : TypeId} (h : ev ρ x = v) [ht : SlT P t e] [hb : NilB v false] : RdC P g (.binOp .neq t x (.const (.slice none 0 0)) tyy) ty ρ w (.bool true) := ⟨fun w' hch => @id (Rd P (.binOp .neq t x (.const (.slice none 0 0)) tyy) ty ρ w' (.bool true)) (by exact rd_neqnil_t h)⟩
theorem rz_neqnil_f {x : Operand} {v : Value} {t e : TypeId} {tyy : TypeId} (h : ev ρ x = v) [ht : SlT P t e] [hb : NilB v true] : RdC P g (.binOp .neq t x (.const (.slice none 0 0)) tyy) ty ρ w (.bool false) := ⟨fun w' hch => @id (Rd P (.binOp .neq t x (.const (.slice none 0 0)) tyy) ty ρ w' (.bool false)) (by exact rd_neqnil_f h)⟩
end
section
variable {P : Program} {N : Nat} {ops : Array Oper} {π : List Nat} {S : World → Prop} {K : Env → World → Prop} {ρ : Env} {w : World}
variable {i : Nat} {d : Nat} {op : Op} {ty : TypeId} {pos : String} {after : Array Edge} {g : Option (Nat × Bool)} {b : Nat}
theorem Chg.refl (b : Nat) (w : World) : Chg b w w := ⟨⟨rfl, rfl, rfl, Nat.le_refl _, fun _ _ _ => rfl⟩⟩
/-- A drawn region that writes block b. -/
theorem z_order {Q : Post} {id : Nat} [hm : Draws P] (b : Nat) (π : List Nat) (hπ : π.length = ops.size := by rfl) (h : ∀ w0, Ext w w0 → w0.heap.size = w.heap.size → dops P N ops π (Chg b w0) (fun ρ w => Q .normal ρ w) 0 ρ w0) : rwp P N (.region id ops true) Q ρ w :=
  r_draw _ hπ _ hm.eq (Chg.refl b _) (h _ (Ext.drew' w) rfl)
theorem za {v : Value} {w0 : World} (hi : opAt ops π i = some ⟨some d, op, ty, pos, after, g⟩ := by exact rfl) (hs : Region.noSelect ops = true := by decide +kernel) (ht : takeOk ops π i = true := by decide +kernel) (hd : d < N := by decide) (hg : Wants ops ρ g := by first | exact True.intro | exact ⟨_, rfl, by ((try simp only [ev_tmp, ev_const, ev_func, get_put, get_args, get_putL, get_putL_nil, Nat.reduceEqDiff, reduceIte, List.getD_cons_zero, List.getD_cons_succ, List.getD_nil, Bool.not_true, Bool.not_false]); first | done | with_reducible rfl)⟩)
    (h : RdC P b op ty ρ w0 v := by first | exact rz_move (by ((try simp only [ev_tmp, ev_const, ev_func, get_put, get_args, get_putL, get_putL_nil, Nat.reduceEqDiff, reduceIte, List.getD_cons_zero, List.getD_cons_succ, List.getD_nil]); first | done | with_reducible rfl)) | exact rz_assign (by ((try simp only [ev_tmp, ev_const, ev_func, get_put, get_args, get_putL, get_putL_nil, Nat.reduceEqDiff, reduceIte, List.getD_cons_zero, List.getD_cons_succ, List.getD_nil]); first | done | with_reducible rfl)) | (refine rz_index (by ((try simp only [ev_tmp, ev_const, ev_func, get_put, get_args, get_putL, get_putL_nil, Nat.reduceEqDiff, reduceIte, List.getD_cons_zero, List.getD_cons_succ, List.getD_nil]); first | done | with_reducible rfl)) (by ((try simp only [ev_tmp, ev_const, ev_func, get_put, get_args, get_putL, get_putL_nil, Nat.reduceEqDiff, reduceIte, List.getD_cons_zero, List.getD_cons_succ, List.getD_nil]); first | done | with_reducible rfl)) ?_ ?_ <;> omega) | (refine rz_load_ints (by ((try simp only [ev_tmp, ev_const, ev_func, get_put, get_args, get_putL, get_putL_nil, Nat.reduceEqDiff, reduceIte, List.getD_cons_zero, List.getD_cons_succ, List.getD_nil]); first | done | with_reducible rfl)) ?_ <;> omega) | (refine rz_load_rows (by ((try simp only [ev_tmp, ev_const, ev_func, get_put, get_args, get_putL, get_putL_nil, Nat.reduceEqDiff, reduceIte, List.getD_cons_zero, List.getD_cons_succ, List.getD_nil]); first | done | with_reducible rfl)) ?_ <;> omega) | (refine rz_load_rowss (by ((try simp only [ev_tmp, ev_const, ev_func, get_put, get_args, get_putL, get_putL_nil, Nat.reduceEqDiff, reduceIte, List.getD_cons_zero, List.getD_cons_succ, List.getD_nil]); first | done | with_reducible rfl)) ?_ <;> omega) | exact rz_load_cell (by ((try simp only [ev_tmp, ev_const, ev_func, get_put, get_args, get_putL, get_putL_nil, Nat.reduceEqDiff, reduceIte, List.getD_cons_zero, List.getD_cons_succ, List.getD_nil]); first | done | with_reducible rfl)) | exact rz_load_agg3 (by ((try simp only [ev_tmp, ev_const, ev_func, get_put, get_args, get_putL, get_putL_nil, Nat.reduceEqDiff, reduceIte, List.getD_cons_zero, List.getD_cons_succ, List.getD_nil]); first | done | with_reducible rfl)) | exact rz_field (by ((try simp only [ev_tmp, ev_const, ev_func, get_put, get_args, get_putL, get_putL_nil, Nat.reduceEqDiff, reduceIte, List.getD_cons_zero, List.getD_cons_succ, List.getD_nil]); first | done | with_reducible rfl)) | exact rz_load_agg3o (by ((try simp only [ev_tmp, ev_const, ev_func, get_put, get_args, get_putL, get_putL_nil, Nat.reduceEqDiff, reduceIte, List.getD_cons_zero, List.getD_cons_succ, List.getD_nil]); first | done | with_reducible rfl)) | exact rz_fieldo0 (by ((try simp only [ev_tmp, ev_const, ev_func, get_put, get_args, get_putL, get_putL_nil, Nat.reduceEqDiff, reduceIte, List.getD_cons_zero, List.getD_cons_succ, List.getD_nil]); first | done | with_reducible rfl)) | exact rz_fieldo (by ((try simp only [ev_tmp, ev_const, ev_func, get_put, get_args, get_putL, get_putL_nil, Nat.reduceEqDiff, reduceIte, List.getD_cons_zero, List.getD_cons_succ, List.getD_nil]); first | done | with_reducible rfl)) | exact rz_load_agg7 (by ((try simp only [ev_tmp, ev_const, ev_func, get_put, get_args, get_putL, get_putL_nil, Nat.reduceEqDiff, reduceIte, List.getD_cons_zero, List.getD_cons_succ, List.getD_nil]); first | done | with_reducible rfl)) | exact rz_len (by ((try simp only [ev_tmp, ev_const, ev_func, get_put, get_args, get_putL, get_putL_nil, Nat.reduceEqDiff, reduceIte, List.getD_cons_zero, List.getD_cons_succ, List.getD_nil]); first | done | with_reducible rfl)) | (refine rz_add (by ((try simp only [ev_tmp, ev_const, ev_func, get_put, get_args, get_putL, get_putL_nil, Nat.reduceEqDiff, reduceIte, List.getD_cons_zero, List.getD_cons_succ, List.getD_nil]); first | done | with_reducible rfl)) (by ((try simp only [ev_tmp, ev_const, ev_func, get_put, get_args, get_putL, get_putL_nil, Nat.reduceEqDiff, reduceIte, List.getD_cons_zero, List.getD_cons_succ, List.getD_nil]); first | done | with_reducible rfl)) ?_ <;> omega) | (refine rz_sub (by ((try simp only [ev_tmp, ev_const, ev_func, get_put, get_args, get_putL, get_putL_nil, Nat.reduceEqDiff, reduceIte, List.getD_cons_zero, List.getD_cons_succ, List.getD_nil]); first | done | with_reducible rfl)) (by ((try simp only [ev_tmp, ev_const, ev_func, get_put, get_args, get_putL, get_putL_nil, Nat.reduceEqDiff, reduceIte, List.getD_cons_zero, List.getD_cons_succ, List.getD_nil]); first | done | with_reducible rfl)) ?_ <;> omega) | exact rz_lss (by ((try simp only [ev_tmp, ev_const, ev_func, get_put, get_args, get_putL, get_putL_nil, Nat.reduceEqDiff, reduceIte, List.getD_cons_zero, List.getD_cons_succ, List.getD_nil]); first | done | with_reducible rfl)) (by ((try simp only [ev_tmp, ev_const, ev_func, get_put, get_args, get_putL, get_putL_nil, Nat.reduceEqDiff, reduceIte, List.getD_cons_zero, List.getD_cons_succ, List.getD_nil]); first | done | with_reducible rfl)) | exact rz_geq (by ((try simp only [ev_tmp, ev_const, ev_func, get_put, get_args, get_putL, get_putL_nil, Nat.reduceEqDiff, reduceIte, List.getD_cons_zero, List.getD_cons_succ, List.getD_nil]); first | done | with_reducible rfl)) (by ((try simp only [ev_tmp, ev_const, ev_func, get_put, get_args, get_putL, get_putL_nil, Nat.reduceEqDiff, reduceIte, List.getD_cons_zero, List.getD_cons_succ, List.getD_nil]); first | done | with_reducible rfl)) | exact rz_leq (by ((try simp only [ev_tmp, ev_const, ev_func, get_put, get_args, get_putL, get_putL_nil, Nat.reduceEqDiff, reduceIte, List.getD_cons_zero, List.getD_cons_succ, List.getD_nil]); first | done | with_reducible rfl)) (by ((try simp only [ev_tmp, ev_const, ev_func, get_put, get_args, get_putL, get_putL_nil, Nat.reduceEqDiff, reduceIte, List.getD_cons_zero, List.getD_cons_succ, List.getD_nil]); first | done | with_reducible rfl)) | exact rz_gtr (by ((try simp only [ev_tmp, ev_const, ev_func, get_put, get_args, get_putL, get_putL_nil, Nat.reduceEqDiff, reduceIte, List.getD_cons_zero, List.getD_cons_succ, List.getD_nil]); first | done | with_reducible rfl)) (by ((try simp only [ev_tmp, ev_const, ev_func, get_put, get_args, get_putL, get_putL_nil, Nat.reduceEqDiff, reduceIte, List.getD_cons_zero, List.getD_cons_succ, List.getD_nil]); first | done | with_reducible rfl)) | exact rz_eql (by ((try simp only [ev_tmp, ev_const, ev_func, get_put, get_args, get_putL, get_putL_nil, Nat.reduceEqDiff, reduceIte, List.getD_cons_zero, List.getD_cons_succ, List.getD_nil]); first | done | with_reducible rfl)) (by ((try simp only [ev_tmp, ev_const, ev_func, get_put, get_args, get_putL, get_putL_nil, Nat.reduceEqDiff, reduceIte, List.getD_cons_zero, List.getD_cons_succ, List.getD_nil]); first | done | with_reducible rfl)) | exact rz_neq (by ((try simp only [ev_tmp, ev_const, ev_func, get_put, get_args, get_putL, get_putL_nil, Nat.reduceEqDiff, reduceIte, List.getD_cons_zero, List.getD_cons_succ, List.getD_nil]); first | done | with_reducible rfl)) (by ((try simp only [ev_tmp, ev_const, ev_func, get_put, get_args, get_putL, get_putL_nil, Nat.reduceEqDiff, reduceIte, List.getD_cons_zero, List.getD_cons_succ, List.getD_nil]); first | done | with_reducible rfl)) | exact rz_not (by ((try simp only [ev_tmp, ev_const, ev_func, get_put, get_args, get_putL, get_putL_nil, Nat.reduceEqDiff, reduceIte, List.getD_cons_zero, List.getD_cons_succ, List.getD_nil]); first | done | with_reducible rfl)) | (refine rz_neg (by ((try simp only [ev_tmp, ev_const, ev_func, get_put, get_args, get_putL, get_putL_nil, Nat.reduceEqDiff, reduceIte, List.getD_cons_zero, List.getD_cons_succ, List.getD_nil]); first | done | with_reducible rfl)) ?_ <;> omega) | exact rz_nilCheck (by ((try simp only [ev_tmp, ev_const, ev_func, get_put, get_args, get_putL, get_putL_nil, Nat.reduceEqDiff, reduceIte, List.getD_cons_zero, List.getD_cons_succ, List.getD_nil]); first | done | with_reducible rfl)) | exact rz_pick_t (by ((try simp only [ev_tmp, ev_const, ev_func, get_put, get_args, get_putL, get_putL_nil, Nat.reduceEqDiff, reduceIte, List.getD_cons_zero, List.getD_cons_succ, List.getD_nil]); first | done | with_reducible rfl)) (by ((try simp only [ev_tmp, ev_const, ev_func, get_put, get_args, get_putL, get_putL_nil, Nat.reduceEqDiff, reduceIte, List.getD_cons_zero, List.getD_cons_succ, List.getD_nil]); first | done | with_reducible rfl)) | exact rz_pick_f (by ((try simp only [ev_tmp, ev_const, ev_func, get_put, get_args, get_putL, get_putL_nil, Nat.reduceEqDiff, reduceIte, List.getD_cons_zero, List.getD_cons_succ, List.getD_nil]); first | done | with_reducible rfl)) (by ((try simp only [ev_tmp, ev_const, ev_func, get_put, get_args, get_putL, get_putL_nil, Nat.reduceEqDiff, reduceIte, List.getD_cons_zero, List.getD_cons_succ, List.getD_nil]); first | done | with_reducible rfl)) | exact rz_ext2a (by ((try simp only [ev_tmp, ev_const, ev_func, get_put, get_args, get_putL, get_putL_nil, Nat.reduceEqDiff, reduceIte, List.getD_cons_zero, List.getD_cons_succ, List.getD_nil]); first | done | with_reducible rfl)) | exact rz_ext2b (by ((try simp only [ev_tmp, ev_const, ev_func, get_put, get_args, get_putL, get_putL_nil, Nat.reduceEqDiff, reduceIte, List.getD_cons_zero, List.getD_cons_succ, List.getD_nil]); first | done | with_reducible rfl)) | exact rz_ext3a (by ((try simp only [ev_tmp, ev_const, ev_func, get_put, get_args, get_putL, get_putL_nil, Nat.reduceEqDiff, reduceIte, List.getD_cons_zero, List.getD_cons_succ, List.getD_nil]); first | done | with_reducible rfl)) | exact rz_ext3b (by ((try simp only [ev_tmp, ev_const, ev_func, get_put, get_args, get_putL, get_putL_nil, Nat.reduceEqDiff, reduceIte, List.getD_cons_zero, List.getD_cons_succ, List.getD_nil]); first | done | with_reducible rfl)) | exact rz_ext3c (by ((try simp only [ev_tmp, ev_const, ev_func, get_put, get_args, get_putL, get_putL_nil, Nat.reduceEqDiff, reduceIte, List.getD_cons_zero, List.getD_cons_succ, List.getD_nil]); first | done | with_reducible rfl)) | exact rz_ext4a (by ((try simp only [ev_tmp, ev_const, ev_func, get_put, get_args, get_putL, get_putL_nil, Nat.reduceEqDiff, reduceIte, List.getD_cons_zero, List.getD_cons_succ, List.getD_nil]); first | done | with_reducible rfl)) | exact rz_ext4b (by ((try simp only [ev_tmp, ev_const, ev_func, get_put, get_args, get_putL, get_putL_nil, Nat.reduceEqDiff, reduceIte, List.getD_cons_zero, List.getD_cons_succ, List.getD_nil]); first | done | with_reducible rfl)) | exact rz_ext4c (by ((try simp only [ev_tmp, ev_const, ev_func, get_put, get_args, get_putL, get_putL_nil, Nat.reduceEqDiff, reduceIte, List.getD_cons_zero, List.getD_cons_succ, List.getD_nil]); first | done | with_reducible rfl)) | exact rz_ext4d (by ((try simp only [ev_tmp, ev_const, ev_func, get_put, get_args, get_putL, get_putL_nil, Nat.reduceEqDiff, reduceIte, List.getD_cons_zero, List.getD_cons_succ, List.getD_nil]); first | done | with_reducible rfl)) | exact rz_eqnil (by ((try simp only [ev_tmp, ev_const, ev_func, get_put, get_args, get_putL, get_putL_nil, Nat.reduceEqDiff, reduceIte, List.getD_cons_zero, List.getD_cons_succ, List.getD_nil]); first | done | with_reducible rfl)) | exact rz_neqnil_t (by ((try simp only [ev_tmp, ev_const, ev_func, get_put, get_args, get_putL, get_putL_nil, Nat.reduceEqDiff, reduceIte, List.getD_cons_zero, List.getD_cons_succ, List.getD_nil]); first | done | with_reducible rfl)) | exact rz_neqnil_f (by ((try simp only [ev_tmp, ev_const, ev_func, get_put, get_args, get_putL, get_putL_nil, Nat.reduceEqDiff, reduceIte, List.getD_cons_zero, List.getD_cons_succ, List.getD_nil]); first | done | with_reducible rfl)) | (refine rz_slice_l (by ((try simp only [ev_tmp, ev_const, ev_func, get_put, get_args, get_putL, get_putL_nil, Nat.reduceEqDiff, reduceIte, List.getD_cons_zero, List.getD_cons_succ, List.getD_nil]); first | done | with_reducible rfl)) (by ((try simp only [ev_tmp, ev_const, ev_func, get_put, get_args, get_putL, get_putL_nil, Nat.reduceEqDiff, reduceIte, List.getD_cons_zero, List.getD_cons_succ, List.getD_nil]); first | done | with_reducible rfl)) ?_ ?_ <;> omega) | (refine rz_slice_h (by ((try simp only [ev_tmp, ev_const, ev_func, get_put, get_args, get_putL, get_putL_nil, Nat.reduceEqDiff, reduceIte, List.getD_cons_zero, List.getD_cons_succ, List.getD_nil]); first | done | with_reducible rfl)) (by ((try simp only [ev_tmp, ev_const, ev_func, get_put, get_args, get_putL, get_putL_nil, Nat.reduceEqDiff, reduceIte, List.getD_cons_zero, List.getD_cons_succ, List.getD_nil]); first | done | with_reducible rfl)) ?_ ?_ <;> omega) | (refine rz_slice_lh (by ((try simp only [ev_tmp, ev_const, ev_func, get_put, get_args, get_putL, get_putL_nil, Nat.reduceEqDiff, reduceIte, List.getD_cons_zero, List.getD_cons_succ, List.getD_nil]); first | done | with_reducible rfl)) (by ((try simp only [ev_tmp, ev_const, ev_func, get_put, get_args, get_putL, get_putL_nil, Nat.reduceEqDiff, reduceIte, List.getD_cons_zero, List.getD_cons_succ, List.getD_nil]); first | done | with_reducible rfl)) (by ((try simp only [ev_tmp, ev_const, ev_func, get_put, get_args, get_putL, get_putL_nil, Nat.reduceEqDiff, reduceIte, List.getD_cons_zero, List.getD_cons_succ, List.getD_nil]); first | done | with_reducible rfl)) ?_ ?_ ?_ <;> omega) | (refine rz_quo (by ((try simp only [ev_tmp, ev_const, ev_func, get_put, get_args, get_putL, get_putL_nil, Nat.reduceEqDiff, reduceIte, List.getD_cons_zero, List.getD_cons_succ, List.getD_nil]); first | done | with_reducible rfl)) (by ((try simp only [ev_tmp, ev_const, ev_func, get_put, get_args, get_putL, get_putL_nil, Nat.reduceEqDiff, reduceIte, List.getD_cons_zero, List.getD_cons_succ, List.getD_nil]); first | done | with_reducible rfl)) ?_ <;> omega) | (refine rz_rem (by ((try simp only [ev_tmp, ev_const, ev_func, get_put, get_args, get_putL, get_putL_nil, Nat.reduceEqDiff, reduceIte, List.getD_cons_zero, List.getD_cons_succ, List.getD_nil]); first | done | with_reducible rfl)) (by ((try simp only [ev_tmp, ev_const, ev_func, get_put, get_args, get_putL, get_putL_nil, Nat.reduceEqDiff, reduceIte, List.getD_cons_zero, List.getD_cons_succ, List.getD_nil]); first | done | with_reducible rfl)) ?_ <;> omega)) (next : dops P N ops π (Chg b w0) K (i + 1) (put ρ d v) w) : dops P N ops π (Chg b w0) K i ρ w := dt_rd hi hs ht hd hg h.at_ next
theorem zgo {G X : Prop} (k : X) (h : Keep X → G := by intro k; (repeat refine za (next := ?_)); exact k.out) : G := h ⟨k⟩
theorem z_wr {w' : World} (hi : opAt ops π i = some ⟨none, op, ty, pos, after, g⟩) (hn : nextOk ops π i = true) (hg : Wants ops ρ g) (h : Wr P op ty ρ w w') (hS' : S w → S w')
    (next : dops P N ops π S K (i + 1) ρ w') : dops P N ops π S K i ρ w := by
  refine dt_step hi hn hg fun hS a ha => ?_
  unfold Oper.wp
  rw [ha.eval, h.run]
  exact ⟨hS' hS, _, ha, fun _ => next⟩
end
end Go.Pc

/-
  Rules for the operations that make or write memory, in the form that a walk uses: what follows is asked in any world of which the stated facts hold.
  Conditions: none; nothing of the program stands here.
-/
namespace Go.Pc
open Go Go.RowKit
section
variable {P : Program} {N : Nat} {ops : Array Oper} {K : Env → World → Prop} {ρ : Env} {w : World} {l : List Oper}
variable {d : Nat} {op : Op} {ty : TypeId} {pos : String} {after : Array Edge} {g : Option (Nat × Bool)}

/-- A slice that the call may append to: nil, or a whole block of its own from base on. -/
class OwnN (e base : outParam Nat) (w : World) (v : Value) (us : outParam (List Value)) : Prop where
  own : w.ownsRow base e 1 v us.length us
theorem OwnN.nil (e base : Nat) (w : World) : OwnN e base w nilv [] := ⟨World.ownsRow_nil w base e 1⟩
theorem Own.toN {e b : Nat} {v : Value} {us : List Value} (h : Own e b w v us) : OwnN e b w v us := by
  obtain ⟨cap, cur, hv, hb, h1, h2, h3, h4⟩ := h.ex
  exact ⟨by simp, .inr ⟨b, cap, cur, hv, Nat.le_refl _, hb, h1, h2, by simp [h3], by simpa using h4⟩⟩
theorem OwnN.mono {e base base' : Nat} {v : Value} {us : List Value} (h : OwnN e base w v us) (hb : base' ≤ base) : OwnN e base' w v us := by
  refine ⟨h.own.1, ?_⟩
  rcases h.own.2 with h | ⟨g, cap, cur, h1, h2, h3⟩
  · exact .inl h
  · exact .inr ⟨g, cap, cur, h1, by omega, h3⟩
theorem OwnN.lt {e base : Nat} {v : Value} {us : List Value} (h : OwnN e base w v us) : ∀ k, v.ownBlock = some k → base ≤ k ∧ k < w.heap.size := h.own.lt
instance (priority := low) OwnN.ext {e base : Nat} {w' : World} {v : Value} {us : List Value} [x : Ext w w'] [h : OwnN e base w v us] : OwnN e base w' v us :=
  ⟨h.own.kept (row := none) ⟨x.below.os, x.below.tape, x.below.output, x.below.size, fun k hk _ => x.below.block k hk⟩ (by cases hv : v.ownBlock <;> simp)⟩
theorem OwnN.other {e base b : Nat} {w' : World} {v : Value} {us : List Value} (h : OwnN e base w v us) (c : Chg b w w') (hb : v.ownBlock ≠ some b) : OwnN e base w' v us :=
  ⟨h.own.kept c.by_ (.inr hb)⟩
theorem OwnN.toSl {e base : Nat} {v : Value} {us : List Value} (h : OwnN e base w v us) : Sl base w.heap.size w v us := by
  rcases h.own.2 with ⟨rfl, h0⟩ | ⟨g, cap, cur, hv, hb, hg, hn, hm, hs, ht⟩
  · have : us = [] := List.eq_nil_of_length_eq_zero h0
    subst this
    exact ⟨⟨none, 0, rfl, Nat.le_refl _, by omega, fun k u hu => by simp at hu⟩⟩
  · have hlt : g < w.heap.size := (Array.getElem?_eq_some_iff.1 hg).1
    refine ⟨⟨some ⟨g, 0, none⟩, cap, hv, hn, by simp only [maxLen] at hm; omega, fun k u hu => ⟨⟨g, 0, none⟩, rfl, hb, hlt, ?_⟩⟩⟩
    have hadd : (Addr.mk g 0 none).add k = ⟨g, k, none⟩ := by unfold Addr.add; split <;> simp_all
    rw [hadd, cell_of_row w g k cur e (0, 0) hg]
    rw [← ht, List.getElem?_take] at hu
    split at hu
    · simpa using hu
    · cases hu
/-- The same, within the block that it lies in. -/
theorem OwnN.toSlAt {e base : Nat} {v : Value} {us : List Value} (h : OwnN e base w v us) {k : Nat} (hk : v.ownBlock = some k) : Sl k (k + 1) w v us := by
  rcases h.own.2 with ⟨rfl, h0⟩ | ⟨g, cap, cur, hv, hb, hg, hn, hm, hs, ht⟩
  · cases hk
  · have : g = k := by rw [hv] at hk; simpa [Value.ownBlock] using hk
    subst this
    refine ⟨⟨some ⟨g, 0, none⟩, cap, hv, hn, by simp only [maxLen] at hm; omega, fun k u hu => ⟨⟨g, 0, none⟩, rfl, Nat.le_refl _, by simp, ?_⟩⟩⟩
    have hadd : (Addr.mk g 0 none).add k = ⟨g, k, none⟩ := by unfold Addr.add; split <;> simp_all
    rw [hadd, cell_of_row w g k cur e (0, 0) hg]
    rw [← ht, List.getElem?_take] at hu
    split at hu
    · simpa using hu
    · cases hu

theorem run_append {t e bytes lo hi base : Nat} {z v y : Value} {us news : List Value} (ht : P.underlying t = some (.slice e)) (he : ElT P e 1 bytes z) (hz : z.cells.size = 1) (hv : OwnN e base w v us) (hy : Sl lo hi w y news)
    (h1 : ∀ u ∈ news, u.oneCell' = true) (hb : (us.length + news.length) * bytes ≤ 140737488355328) (hl : us.length + news.length ≤ maxLen) (hbase : base ≤ w.heap.size) :
    ∃ v' w', (Builtin.append_ #[t, t] ty #[v, y]).run P w = .ok v' w' ∧ OwnN e base w' v' (us ++ news) ∧ w.grownBy w' v.ownBlock ∧ (v'.ownBlock = v.ownBlock ∨ v'.ownBlock = some w.heap.size) := by
  obtain ⟨i, hi', hs, hby, hz'⟩ := he.ex
  obtain ⟨A, c, rfl, hc, hm, hcell⟩ := hy.ex
  cases A with
  | none =>
    have hn : news = [] := by
      cases news with
      | nil => rfl
      | cons u r => obtain ⟨a, h, _⟩ := hcell 0 u rfl; cases h
    subst hn
    have hrun : (Builtin.append_ #[t, t] ty #[v, .slice none 0 c]).run P w = .ok v w := by
      rcases hv.own.2 with ⟨rfl, h0⟩ | ⟨g, cap, cur, rfl, _, _, hnc, _⟩
      · simp [Builtin.append_, run_underlying ht, sizeOf, typeInfo, hi', Builtin.lenOf, Builtin.firstCells]
      · simp [Builtin.append_, run_underlying ht, sizeOf, typeInfo, hi', Builtin.lenOf, Builtin.firstCells, hnc, storeCells]
    exact ⟨v, w, hrun, by simpa using hv, World.grownBy.refl w _, .inl rfl⟩
  | some ad =>
    have hcells : ∀ j u, news[j]? = some u → w.cell? (ad.add j) = some u := fun j u hu => by
      obtain ⟨a, h, _, _, h4⟩ := hcell j u hu
      injection h with h; subst h; exact h4
    obtain ⟨v', w', hrun, h2, h3, _, h5⟩ := run_append_own_at (P := P) w base t ty e i z 1 bytes ht hi' hz' hs hby hz (by omega) v us.length us hv.own ad news.length c news (by simp) hcells h1 hl hb hbase
    exact ⟨v', w', hrun, ⟨by simpa using h2⟩, h3, h5⟩

theorem st_append {s x : Operand} {t e bytes lo hi base : Nat} {z v y : Value} {us news : List Value} [ht : SlT P t e] [he : ElT P e 1 bytes z] [hv : OwnN e base w v us] [hy : Sl lo hi w y news]
    (hs : ev ρ s = v) (hx : ev ρ x = y) (hz : z.cells.size = 1) (h1 : ∀ u ∈ news, u.oneCell' = true) (hb : (us.length + news.length) * bytes ≤ 140737488355328) (hl : us.length + news.length ≤ maxLen) (hbase : base ≤ w.heap.size) (hg : Wants ops ρ g)
    (next : ∀ v' w', OwnN e base w' v' (us ++ news) → w.grownBy w' v.ownBlock → (v'.ownBlock = v.ownBlock ∨ v'.ownBlock = some w.heap.size) → rops P N ops K l (put ρ d v') w') :
    rops P N ops K (⟨some d, .call { callee := .builtin .append, args := #[s, x], argTypes := #[t, t] }, ty, pos, after, g⟩ :: l) ρ w := by
  obtain ⟨v', w', hrun, h2, h3, h4⟩ := run_append (P := P) (ty := ty) ht.eq he hz hv hy h1 hb hl hbase
  refine st_ex (v := v') (w' := w') hg ⟨fun _ _ _ _ => ?_⟩ (next v' w' h2 h3 h4)
  simp [execOp, resolve, invoke, builtin, hs, hx, hrun]

end
end Go.Pc

/-
  More rules for the operations that make or write memory: stores, makes, boxes, slices cut out of slices.
  Conditions: none; nothing of the program stands here.
-/
namespace Go.Pc
open Go Go.RowKit
section
variable {P : Program} {N : Nat} {ops : Array Oper} {K : Env → World → Prop} {ρ : Env} {w : World} {l : List Oper}
variable {d : Nat} {op : Op} {ty : TypeId} {pos : String} {after : Array Edge} {g : Option (Nat × Bool)}

theorem run_storeVar_one {t : TypeId} {bytes : Nat} {z : Value} (he : ElT P t 1 bytes z) {b m : Nat} {cur : Array Value} {e : TypeId} {u : Value} (hu : u.oneCell' = true) (hb : w.heap[b]? = some (.cells cur e (0, 0))) (hm : m < cur.size) :
    (storeVar t ⟨b, m, none⟩ u).run P w = .ok () (w.setCell ⟨b, m, none⟩ u) := by
  obtain ⟨i, hi, hs, _, _⟩ := he.ex
  have hc : w.cell? ⟨b, m, none⟩ = some cur[m] := by rw [cell_of_row w b m cur e (0, 0) hb]; simp [hm]
  have hf : w.frozen? ⟨b, m, none⟩ = false := by simp [World.frozen?, hb]
  have hcells : u.cells = #[u] := by cases u <;> simp_all [Value.cells, Value.oneCell']
  have hst := run_store P w ⟨b, m, none⟩ u .plain hu
  rw [hc] at hst
  simp only [hf] at hst
  simp [storeVar, sizeOf, typeInfo, hi, hs, hcells, storeCells, Addr.add, hst]
theorem setCell_own {e b : Nat} {v : Value} {us : List Value} (h : Own e b w v us) {m : Nat} (u : Value) :
    Own e b (w.setCell ⟨b, m, none⟩ u) v (us.set m u) ∧ Chg b w (w.setCell ⟨b, m, none⟩ u) ∧ (w.setCell ⟨b, m, none⟩ u).heap.size = w.heap.size := by
  obtain ⟨cap, cur, hv, hb, h1, h2, h3, h4⟩ := h.ex
  have hlt := h.lt
  refine ⟨⟨cap, cur.setIfInBounds m u, by simpa using hv, ?_, by simpa using h1, h2, by simpa using h3, ?_⟩, ⟨⟨rfl, rfl, rfl, by simp [World.setCell], fun k hk hne => Below.heap_setCell _ _ _ _ (by intro e; subst e; exact hne rfl)⟩⟩, by simp [World.setCell]⟩
  · simp [World.setCell, Array.getElem?_modify, hb]
  · rw [List.length_set, Array.toList_setIfInBounds, List.take_set, h4]
theorem eptr_own {e b : Nat} {v : Value} {us : List Value} (h : Own e b w v us) (m : Nat) : eptr v m = .pointer (some ⟨b, m, none⟩) := by
  obtain ⟨cap, cur, hv, _⟩ := h.ex
  subst hv
  have hadd : (Addr.mk b 0 none).add m = ⟨b, m, none⟩ := by unfold Addr.add; split <;> simp_all
  simp [eptr, hadd]
theorem wr_store {e b t m bytes : Nat} {x y : Operand} {v u z : Value} {us : List Value} [he : ElT P t 1 bytes z] [h : Own e b w v us] (hx : ev ρ x = eptr v m) (hy : ev ρ y = u) (hu : u.oneCell' = true) (hm : m < us.length) :
    Wr P (.store t x y) ty ρ w (w.setCell ⟨b, m, none⟩ u) := by
  constructor; intro _ _ _ _
  rw [eptr_own h] at hx
  obtain ⟨cap, cur, hv, hb, h1, h2, h3, h4⟩ := h.ex
  have hr := run_storeVar_one (P := P) he hu hb (m := m) (by omega)
  simp [execOp, hx, hy, Instr.storeAt, Instr.sureAddr, hr]
/-- Store an integer into a slice of the call's own. -/
theorem st_store_int {e b t m bytes : Nat} {x y : Operand} {v z : Value} {k : Int} {xs : List Int} [he : ElT P t 1 bytes z] [h : OwnI e b w v xs] (hx : ev ρ x = eptr v m) (hy : ev ρ y = .int .i64 k) (hm : m < xs.length) (hg : Wants ops ρ g)
    (next : ∀ w', Chg b w w' → w'.heap.size = w.heap.size → OwnI e b w' v (xs.set m k) → rops P N ops K l ρ w') : rops P N ops K (⟨none, .store t x y, ty, pos, after, g⟩ :: l) ρ w := by
  have hs := setCell_own h.own (m := m) (.int .i64 k)
  have hw := wr_store (P := P) (ρ := ρ) (ty := ty) (t := t) (h := h.own) hx hy rfl (by simpa using hm)
  exact st_wr hg hw (next _ hs.2.1 hs.2.2 ⟨by rw [List.map_set]; exact hs.1⟩)
/-- Store a slice value into a slice of the call's own. -/
theorem st_store_val {e b t m bytes : Nat} {x y : Operand} {v u z : Value} {us : List Value} [he : ElT P t 1 bytes z] [h : Own e b w v us] (hx : ev ρ x = eptr v m) (hy : ev ρ y = u) (hu : u.oneCell' = true) (hm : m < us.length) (hg : Wants ops ρ g)
    (next : ∀ w', Chg b w w' → w'.heap.size = w.heap.size → Own e b w' v (us.set m u) → rops P N ops K l ρ w') : rops P N ops K (⟨none, .store t x y, ty, pos, after, g⟩ :: l) ρ w := by
  have hs := setCell_own h (m := m) u
  exact st_wr hg (wr_store (P := P) (ρ := ρ) (ty := ty) (t := t) (h := h) hx hy hu hm) (next _ hs.2.1 hs.2.2 hs.1)

/-- make of integers. -/
theorem st_make_int {t e n : Nat} {x y : Operand} {k : Int} [ht : SlT P t e] [he : ElT P e 1 8 (.int .i64 0)] [hm : NatOf k n] (h : ev ρ x = .int .i64 k) (h' : ev ρ y = .int .i64 k) (h0 : 0 ≤ k) (h1 : k ≤ 17592186044416) (hg : Wants ops ρ g)
    (next : ∀ w' v, Ext w w' → w'.heap.size = w.heap.size + 1 → OwnI e w.heap.size w' v (List.replicate n 0) → rops P N ops K l (put ρ d v) w') : rops P N ops K (⟨some d, .makeSlice t x y, ty, pos, after, g⟩ :: l) ρ w := by
  have hn : k = (n : Int) := by have := hm.eq; omega
  refine st_ex hg (ex_make (n := n) h h' rfl h0 (by omega) (by omega)) (next _ _ (Ext.alloc _ _) (by simp) ⟨?_⟩)
  have := own_alloc w (List.replicate n (Value.int .i64 0)) e (by simp [maxLen]; omega)
  simpa using this
/-- A slice of one value, for an append. -/
theorem st_slice1 {t e bytes : Nat} {x : Operand} {u z : Value} [ht : SlT P t e] [he : ElT P e 1 bytes z] (h : ev ρ x = u) (hu : u.cells = #[u]) (hz : z.cells = #[z]) (hg : Wants ops ρ g)
    (next : ∀ w' v, Ext w w' → w'.heap.size = w.heap.size + 1 → Sl w.heap.size (w.heap.size + 1) w' v [u] → rops P N ops K l (put ρ d v) w') : rops P N ops K (⟨some d, .buildSlice t 1 #[(0, x)], ty, pos, after, g⟩ :: l) ρ w := by
  obtain ⟨i, hi, hs, hby, hz'⟩ := he.ex
  refine st_ex (v := .slice (some ⟨w.heap.size, 0, none⟩) 1 1) (w' := w.alloc (.cells #[u] e)) hg ⟨fun _ _ _ _ => ?_⟩ (next _ _ (Ext.alloc _ _) (by simp) ?_)
  · simp [execOp, h, Instr.buildSlice, run_underlying ht.eq, sizeOf, typeInfo, hi, hs, zeroValue, hz', hz, Instr.fill, hu, newRow]
    refine congrArg (fun a => w.alloc (Obj.cells a e)) (Array.ext (by simp) fun j h1 h2 => ?_)
    have : j = 0 := by simp at h2; omega
    subst this
    simp
  · have := own_alloc w [u] e (by simp [maxLen])
    simpa using this.toSl
/-- The slice literal without elements. -/
theorem st_slice0 {t e bytes : Nat} {z : Value} [ht : SlT P t e] [he : ElT P e 1 bytes z] (hg : Wants ops ρ g)
    (next : ∀ w' v, Ext w w' → w'.heap.size = w.heap.size + 1 → Own e w.heap.size w' v [] → rops P N ops K l (put ρ d v) w') : rops P N ops K (⟨some d, .buildSlice t 0 #[], ty, pos, after, g⟩ :: l) ρ w := by
  obtain ⟨i, hi, hs, hby, hz'⟩ := he.ex
  refine st_ex (v := .slice (some ⟨w.heap.size, 0, none⟩) 0 0) (w' := w.alloc (.cells #[] e)) hg ⟨fun _ _ _ _ => ?_⟩ (next _ _ (Ext.alloc _ _) (by simp) ?_)
  · simp [execOp, Instr.buildSlice, run_underlying ht.eq, sizeOf, typeInfo, hi, hs, Instr.fill, newRow]
    exact congrArg (fun a => w.alloc (Obj.cells a e)) (Array.ext (by simp) fun j h1 h2 => by simp at h2)
  · have := own_alloc w [] e (by simp [maxLen])
    simpa using this
theorem st_box3 {t : TypeId} {x : Operand} {v0 v1 v2 : Value} (h : ev ρ x = .agg #[v0, v1, v2]) (hg : Wants ops ρ g)
    (next : ∀ w' b, Ext w w' → b = w.heap.size → w'.heap.size = b + 1 → Cell w' b 0 v0 → Cell w' b 1 v1 → Cell w' b 2 v2 → rops P N ops K l (put ρ d (.pointer (some ⟨b, 0, none⟩))) w') : rops P N ops K (⟨some d, .box t x, ty, pos, after, g⟩ :: l) ρ w :=
  st_ex hg (ex_box3 h) (next _ _ (Ext.alloc _ _) rfl (by simp) (cell_alloc _ _ _ 0 _ rfl) (cell_alloc _ _ _ 1 _ rfl) (cell_alloc _ _ _ 2 _ rfl))
end
end Go.Pc

/-
  Blocks that are known whole (structs in memory): made, loaded, stored, built.
  Conditions: none; nothing of the program stands here.
-/
namespace Go.Pc
open Go Go.RowKit
/-- A block known whole, that may be written. -/
class Blk (w : World) (b : Nat) (cs : outParam (List Value)) : Prop where
  ex : ∃ t, w.heap[b]? = some (.cells cs.toArray t (0, 0))
section
variable {w w' : World} {b g : Nat} {cs : List Value}
theorem Blk.lt (h : Blk w b cs) : b < w.heap.size := by obtain ⟨t, h⟩ := h.ex; exact (Array.getElem?_eq_some_iff.1 h).1
theorem Blk.cell (h : Blk w b cs) {k : Nat} {v : Value} (hk : cs[k]? = some v) : Cell w b k v := by
  obtain ⟨t, ht⟩ := h.ex
  exact ⟨by rw [cell_of_row w b k _ t (0, 0) ht]; simpa using hk, h.lt⟩
theorem Blk.chg' (h : Blk w b cs) (c : Chg g w w') (hne : b ≠ g) : Blk w' b cs := by
  obtain ⟨t, ht⟩ := h.ex
  exact ⟨t, by rw [c.by_.block b h.lt (by simp; omega)]; exact ht⟩
instance (priority := low) Blk.ext [x : Ext w w'] [h : Blk w b cs] : Blk w' b cs := by
  obtain ⟨t, ht⟩ := h.ex
  exact ⟨t, by rw [x.below.block b h.lt]; exact ht⟩
instance (priority := low) Blk.chg [c : Chg g w w'] [h : Blk w b cs] [a : Apart b (b + 1) g] : Blk w' b cs := h.chg' c (by have := a.out; omega)
end
class ZeroT (P : Program) (t : TypeId) (zs : outParam (List Value)) : Prop where
  ex : ∃ i, P.info? t = some i ∧ i.zero = some (.agg zs.toArray) ∧ i.size = zs.length
section
variable {P : Program} {N : Nat} {ops : Array Oper} {K : Env → World → Prop} {ρ : Env} {w : World} {l : List Oper}
variable {d : Nat} {op : Op} {ty : TypeId} {pos : String} {after : Array Edge} {g : Option (Nat × Bool)}
theorem blk_alloc (w : World) (cs : List Value) (t : TypeId) : Blk (w.alloc (.cells cs.toArray t)) w.heap.size cs := ⟨t, heap_alloc_new w _⟩
/-- A struct variable of its zero value. -/
theorem st_alloc {t : TypeId} {zs : List Value} [hz : ZeroT P t zs] (hg : Wants ops ρ g)
    (next : ∀ w' b, Ext w w' → b = w.heap.size → w'.heap.size = b + 1 → Blk w' b zs → rops P N ops K l (put ρ d (.pointer (some ⟨b, 0, none⟩))) w') : rops P N ops K (⟨some d, .alloc t, ty, pos, after, g⟩ :: l) ρ w := by
  obtain ⟨i, hi, hz, hs⟩ := hz.ex
  refine st_ex (v := .pointer (some ⟨w.heap.size, 0, none⟩)) (w' := w.alloc (.cells zs.toArray t)) hg ⟨fun _ _ _ _ => ?_⟩ (next _ _ (Ext.alloc _ _) rfl (by simp) (blk_alloc _ _ _))
  simp [execOp, Instr.alloc, zeroValue, typeInfo, hi, hz, newVar, newRow, Value.cells]
theorem st_box {t : TypeId} {x : Operand} {vs : List Value} (h : ev ρ x = .agg vs.toArray) (hg : Wants ops ρ g)
    (next : ∀ w' b, Ext w w' → b = w.heap.size → w'.heap.size = b + 1 → Blk w' b vs → rops P N ops K l (put ρ d (.pointer (some ⟨b, 0, none⟩))) w') : rops P N ops K (⟨some d, .box t x, ty, pos, after, g⟩ :: l) ρ w := by
  refine st_ex (v := .pointer (some ⟨w.heap.size, 0, none⟩)) (w' := w.alloc (.cells vs.toArray t)) hg ⟨fun _ _ _ _ => ?_⟩ (next _ _ (Ext.alloc _ _) rfl (by simp) (blk_alloc _ _ _))
  simp [execOp, h, Instr.box, newVar, newRow, Value.cells]
theorem run_loadAgg {t b n : Nat} {cs : List Value} [hp : StructT P t n] (hn : n = cs.length) [h : Blk w b cs] : (loadVar t ⟨b, 0, none⟩).run P w = .ok (.agg cs.toArray) w := by
  subst hn
  obtain ⟨fs, i, hu, hi, hs⟩ := hp.ex
  have hl := run_loadCells_list (P := P) w ⟨b, 0, none⟩ cs fun j v hv => by
    have hadd : (Addr.mk b 0 none).add j = ⟨b, j, none⟩ := by unfold Addr.add; split <;> simp_all
    rw [hadd]; exact (h.cell hv).eq
  simp [loadVar, isAgg, run_underlying hu, sizeOf, typeInfo, hi, hs, hl]
theorem rd_load_blk {x : Operand} {t b n : Nat} {cs : List Value} [hp : StructT P t n] [hb : Blk w b cs] (h : ev ρ x = .pointer (some ⟨b, 0, none⟩)) (hn : n = cs.length) : Rd P (.load t x) ty ρ w (.agg cs.toArray) := by
  constructor; intro _ _ _ _
  have := run_loadAgg (P := P) (t := t) (h := hb) hn
  simp [execOp, h, Instr.loadAt, Instr.sureAddr, this]
theorem st_store_agg {t b n : Nat} {x y : Operand} {cs vs : List Value} [hp : StructT P t n] [hb : Blk w b cs] (hx : ev ρ x = .pointer (some ⟨b, 0, none⟩)) (hy : ev ρ y = .agg vs.toArray) (hn : n = vs.length) (hc : cs.length = vs.length) (h1 : vs.all (·.oneCell') = true) (hg : Wants ops ρ g)
    (next : ∀ w', Chg b w w' → w'.heap.size = w.heap.size → Blk w' b vs → rops P N ops K l ρ w') : rops P N ops K (⟨none, .store t x y, ty, pos, after, g⟩ :: l) ρ w := by
  obtain ⟨fs, i, hu, hi, hs⟩ := hp.ex
  obtain ⟨tb, hb'⟩ := hb.ex
  have hr := run_storeVar_row (P := P) w b tb t cs.toArray vs.toArray hb' (by simp [hi, hs, hn]) (by simpa using hc) (by simpa using h1)
  refine st_wr hg (w' := w.setRow b vs.toArray) ⟨fun _ _ _ _ => ?_⟩ (next _ ⟨⟨rfl, rfl, rfl, by simp, fun k hk hne => setRow_other w b k _ (fun e => hne (by simp [e]))⟩⟩ (by simp) ⟨tb, setRow_heap w b _ _ tb _ hb'⟩)
  simp [execOp, hx, hy, Instr.storeAt, Instr.sureAddr, hr]
/-- A store into one cell of a struct. -/
theorem st_store_fld {b t m bytes : Nat} {x y : Operand} {u z : Value} {cs : List Value} [he : ElT P t 1 bytes z] [h : Blk w b cs] (hx : ev ρ x = .pointer (some ⟨b, m, none⟩)) (hy : ev ρ y = u) (hu : u.oneCell' = true) (hm : m < cs.length) (hg : Wants ops ρ g)
    (next : ∀ w', Chg b w w' → w'.heap.size = w.heap.size → Blk w' b (cs.set m u) → rops P N ops K l ρ w') : rops P N ops K (⟨none, .store t x y, ty, pos, after, g⟩ :: l) ρ w := by
  obtain ⟨tb, hb⟩ := h.ex
  have hr := run_storeVar_one (P := P) he hu hb (m := m) (by simpa using hm)
  have hw : Wr P (.store t x y) ty ρ w (w.setCell ⟨b, m, none⟩ u) := by
    constructor; intro _ _ _ _
    simp [execOp, hx, hy, Instr.storeAt, Instr.sureAddr, hr]
  refine st_wr hg hw (next _ ⟨⟨rfl, rfl, rfl, by simp [World.setCell], fun k hk hne => Below.heap_setCell _ _ _ _ (by intro e; subst e; exact hne rfl)⟩⟩ (by simp [World.setCell]) ⟨tb, ?_⟩)
  simp [World.setCell, Array.getElem?_modify, hb]
theorem retc {t : Tmp} {ty : TypeId} {R : Value → World → Prop} {b n : Nat} {cs : List Value} [hp : StructT P ty n] [hb : Blk w b cs] (h : R (.agg cs.toArray) w) (hn : n = cs.length) (hv : get ρ t = .pointer (some ⟨b, 0, none⟩) := by ((try simp only [ev_tmp, ev_const, ev_func, get_put, get_args, get_putL, get_putL_nil, Nat.reduceEqDiff, reduceIte, List.getD_cons_zero, List.getD_cons_succ, List.getD_nil, Bool.not_true, Bool.not_false]); first | done | with_reducible rfl)) : retQ P [.cell t ty] R .ret ρ w :=
  retQ_1 (rv_cell hv (run_loadAgg (h := hb) hn)) h
theorem rd_build {t : TypeId} {parts : Array (Nat × Operand)} {ps : Array (Nat × Value)} {v : Value} (hp : parts.map (fun x => (x.1, ev ρ x.2)) = ps) (hb : ∀ w, (Instr.build t ps).run P w = .ok v w) : Rd P (.build t parts) ty ρ w v := by
  subst hp
  constructor; intro _ _ _ _
  have := hb w
  simp [execOp, this]
theorem rd_fieldv {s f : Nat} {x : Operand} {u v : Value} (h : ev ρ x = u) (hb : ∀ w, (Instr.field s u f).run P w = .ok v w) : Rd P (.field s x f) ty ρ w v := by
  subst h
  constructor; intro _ _ _ _
  have := hb w
  simp [execOp, this]
end
end Go.Pc

/-
  Rules for drawn regions that write one block of the call's own.
  Conditions: none; nothing of the program stands here.
-/
namespace Go.Pc
open Go Go.RowKit
section
variable {P : Program} {N : Nat} {ops : Array Oper} {π : List Nat} {K : Env → World → Prop} {ρ : Env} {w w0 : World}
variable {i : Nat} {ty : TypeId} {pos : String} {after : Array Edge} {g : Option (Nat × Bool)}
theorem Chg.trans {b : Nat} {w1 w2 w3 : World} (h : Chg b w1 w2) (k : Chg b w2 w3) : Chg b w1 w3 := by
  obtain ⟨a1, a2, a3, a4, a5⟩ := h.by_
  obtain ⟨b1, b2, b3, b4, b5⟩ := k.by_
  exact ⟨⟨b1.trans a1, b2.trans a2, b3.trans a3, Nat.le_trans a4 b4, fun j hj hn => (b5 j (Nat.lt_of_lt_of_le hj a4) hn).trans (a5 j hj hn)⟩⟩
theorem z_end {b : Nat} (h : K ρ w) (hd : doneOk ops π i = true := by decide +kernel) : dops P N ops π (Chg b w0) K i ρ w := dt_end hd h
end
end Go.Pc

/-
  More rules: slices cut out of slices; what drawn regions make and append; calls whose contract says first that memory has grown.
  Conditions: none; nothing of the program stands here.
-/
namespace Go.Pc
open Go Go.RowKit
/-! ### slices cut out of slices -/
section
variable {P : Program} {ρ : Env} {w : World} {ty : TypeId} {e base lo hi : Nat} {v : Value} {us : List Value} {xs : List Int} {xss : List (List Int)}
theorem Own.toN_block {b : Nat} (h : Own e b w v us) : v.ownBlock = some b := by obtain ⟨cap, cur, rfl, _⟩ := h.ex; rfl
theorem cutTo_block (v : Value) (m : Nat) : (cutTo v m).ownBlock = v.ownBlock := by
  unfold cutTo
  split
  · rename_i a _ _; cases a <;> rfl
  · rfl
theorem OwnN.cutTo (h : OwnN e base w v us) {m : Nat} (hm : m ≤ us.length) : OwnN e base w (Pc.cutTo v m) (us.take m) := by
  have hl : (us.take m).length = m := by simp; omega
  refine ⟨by simp, ?_⟩
  rw [hl]
  rcases h.own.2 with ⟨rfl, h0⟩ | ⟨g, cap, cur, rfl, hb, hg, hn, hm2, hs, ht⟩
  · left
    obtain rfl : m = 0 := by omega
    exact ⟨rfl, rfl⟩
  · right
    refine ⟨g, cap, cur, rfl, hb, hg, by omega, hm2, hs, ?_⟩
    rw [← ht, List.take_take]
    congr 1; omega
theorem Sl.cut (h : Sl lo hi w v us) {l k : Nat} (hlk : l ≤ k) (hk : k ≤ us.length) : Sl lo hi w (Pc.cut v l k) ((us.take k).drop l) := by
  obtain ⟨A, c, rfl, hc, hm, hcell⟩ := h.ex
  have hl : ((us.take k).drop l).length = k - l := by simp; omega
  refine ⟨⟨if c = l then A else A.map (·.add (l * 1)), c - l, ?_, by omega, by omega, fun i u hu => ?_⟩⟩
  · rw [hl]; rfl
  · rw [List.getElem?_drop, List.getElem?_take] at hu
    split at hu
    · obtain ⟨a, rfl, h1, h2, h3⟩ := hcell _ u hu
      have hlt : l + i < us.length := (List.getElem?_eq_some_iff.1 hu).1
      rw [if_neg (by omega)]
      refine ⟨a.add (l * 1), rfl, by rw [add_block]; exact h1, by rw [add_block]; exact h2, ?_⟩
      rw [Nat.mul_one, Addr.add_add]; exact h3
    · cases hu
theorem Ints.cut (h : Ints lo hi w v xs) {l k : Nat} (hlk : l ≤ k) (hk : k ≤ xs.length) : Ints lo hi w (Pc.cut v l k) ((xs.take k).drop l) :=
  ⟨by have := h.sl.cut hlk (k := k) (by simpa using hk); simpa [List.map_take, List.map_drop] using this⟩
end
section
variable {w : World} {lo hi : Nat} {v : Value} {us : List Value} {xs : List Int}
theorem Sl.cutTo (h : Sl lo hi w v us) {m : Nat} (hm : m ≤ us.length) : Sl lo hi w (Pc.cutTo v m) (us.take m) := by
  obtain ⟨A, c, rfl, hc, hmx, hcell⟩ := h.ex
  have hl : (us.take m).length = m := by simp; omega
  refine ⟨⟨A, c, by rw [hl]; rfl, by omega, hmx, fun i u hu => ?_⟩⟩
  rw [List.getElem?_take] at hu
  split at hu
  · exact hcell i u hu
  · cases hu
theorem Ints.cutTo (h : Ints lo hi w v xs) {m : Nat} (hm : m ≤ xs.length) : Ints lo hi w (Pc.cutTo v m) (xs.take m) :=
  ⟨by have := h.sl.cutTo (m := m) (by simpa using hm); simpa [List.map_take] using this⟩
end
/-! ### drawn regions -/
section
variable {P : Program} {ρ : Env} {w : World} {ty : TypeId}
theorem run_slice1 {t e bytes : Nat} {x : Operand} {u z : Value} [ht : SlT P t e] [he : ElT P e 1 bytes z] (h : ev ρ x = u) (hu : u.cells = #[u]) (hz : z.cells = #[z]) :
    ∃ v w', Ex P (.buildSlice t 1 #[(0, x)]) ty ρ w v w' ∧ Ext w w' ∧ w'.heap.size = w.heap.size + 1 ∧ Sl w.heap.size (w.heap.size + 1) w' v [u] := by
  obtain ⟨i, hi, hs, hby, hz'⟩ := he.ex
  refine ⟨.slice (some ⟨w.heap.size, 0, none⟩) 1 1, w.alloc (.cells #[u] e), ⟨fun _ _ _ _ => ?_⟩, Ext.alloc _ _, by simp, ?_⟩
  · simp [execOp, h, Instr.buildSlice, run_underlying ht.eq, sizeOf, typeInfo, hi, hs, zeroValue, hz', hz, Instr.fill, hu, newRow]
    refine congrArg (fun a => w.alloc (Obj.cells a e)) (Array.ext (by simp) fun j h1 h2 => ?_)
    have : j = 0 := by simp at h2; omega
    subst this
    simp
  · have := own_alloc w [u] e (by simp [maxLen])
    simpa using this.toSl
end
section
variable {P : Program} {N : Nat} {ops : Array Oper} {π : List Nat} {K : Env → World → Prop} {ρ : Env} {w w0 : World}
variable {i : Nat} {ty : TypeId} {pos : String} {after : Array Edge} {g : Option (Nat × Bool)} {d : Nat} {op : Op} {S : World → Prop}
theorem Chg.grow {b : Nat} {w1 w2 w3 : World} (h : Chg b w1 w2) (k : Ext w2 w3) : Chg b w1 w3 := by
  obtain ⟨a1, a2, a3, a4, a5⟩ := h.by_
  have k1 := k.below
  refine ⟨⟨k1.os.trans a1, k1.tape.trans a2, k1.output.trans a3, Nat.le_trans a4 k1.size, fun j hj hn => ?_⟩⟩
  exact (k1.block j (Nat.lt_of_lt_of_le hj a4)).trans (a5 j hj hn)
/-- A call, in a region that writes block b. -/
theorem zc {b : Nat} {f : FuncId} {args : Array Value} {R : Value → World → Prop} (hc : Calls P f args w (Ret R)) (hi : opAt ops π i = some ⟨some d, op, ty, pos, after, g⟩ := by exact rfl) (hn : nextOk ops π i = true := by decide +kernel) (hd : d < N := by decide)
    (ho : Cl P op ty ρ f args := by ((first | refine cl_func ?_ | refine cl_fval ((by ((try simp only [ev_tmp, ev_const, ev_func, get_put, get_args, get_putL, get_putL_nil, Nat.reduceEqDiff, reduceIte, List.getD_cons_zero, List.getD_cons_succ, List.getD_nil]); first | done | with_reducible rfl))) ?_); ((try simp only [List.map_toArray, List.map_cons, List.map_nil, ev_tmp, ev_const, ev_func, get_put, get_args, get_putL, get_putL_nil, Nat.reduceEqDiff, reduceIte, List.getD_cons_zero, List.getD_cons_succ, List.getD_nil]); first | done | with_reducible rfl | rfl))) (hg : Wants ops ρ g := by first | exact True.intro | exact ⟨_, rfl, by ((try simp only [ev_tmp, ev_const, ev_func, get_put, get_args, get_putL, get_putL_nil, Nat.reduceEqDiff, reduceIte, List.getD_cons_zero, List.getD_cons_succ, List.getD_nil, Bool.not_true, Bool.not_false]); first | done | with_reducible rfl)⟩) (hR : ∀ v w', R v w' → Ext w w' := by first | exact fun _ _ h => And.left h | (rintro _ _ ⟨_, h⟩; exact h) | (rintro _ _ ⟨_, rfl, _, h⟩; exact h) | (rintro _ _ ⟨_, rfl, _, _, h⟩; exact h) | (rintro _ _ ⟨_, rfl, _, _, _, h⟩; exact h)) (next : ∀ v w', R v w' → dops P N ops π (Chg b w0) K (i + 1) (put ρ d v) w') : dops P N ops π (Chg b w0) K i ρ w :=
  dt_call hi hn hd hg ho hc fun v w' h => ⟨fun hS => hS.grow (hR v w' h), next v w' h⟩
/-- A call, in a region that reads. -/
theorem dce {f : FuncId} {args : Array Value} {R : Value → World → Prop} (hc : Calls P f args w (Ret R)) (hi : opAt ops π i = some ⟨some d, op, ty, pos, after, g⟩ := by exact rfl) (hn : nextOk ops π i = true := by decide +kernel) (hd : d < N := by decide)
    (ho : Cl P op ty ρ f args := by ((first | refine cl_func ?_ | refine cl_fval ((by ((try simp only [ev_tmp, ev_const, ev_func, get_put, get_args, get_putL, get_putL_nil, Nat.reduceEqDiff, reduceIte, List.getD_cons_zero, List.getD_cons_succ, List.getD_nil]); first | done | with_reducible rfl))) ?_); ((try simp only [List.map_toArray, List.map_cons, List.map_nil, ev_tmp, ev_const, ev_func, get_put, get_args, get_putL, get_putL_nil, Nat.reduceEqDiff, reduceIte, List.getD_cons_zero, List.getD_cons_succ, List.getD_nil]); first | done | with_reducible rfl | rfl))) (hg : Wants ops ρ g := by first | exact True.intro | exact ⟨_, rfl, by ((try simp only [ev_tmp, ev_const, ev_func, get_put, get_args, get_putL, get_putL_nil, Nat.reduceEqDiff, reduceIte, List.getD_cons_zero, List.getD_cons_succ, List.getD_nil, Bool.not_true, Bool.not_false]); first | done | with_reducible rfl)⟩) (hR : ∀ v w', R v w' → Ext w w' := by first | exact fun _ _ h => And.left h | (rintro _ _ ⟨_, h⟩; exact h) | (rintro _ _ ⟨_, rfl, _, h⟩; exact h) | (rintro _ _ ⟨_, rfl, _, _, h⟩; exact h) | (rintro _ _ ⟨_, rfl, _, _, _, h⟩; exact h)) (next : ∀ v w', R v w' → dops P N ops π (Ext w0) K (i + 1) (put ρ d v) w') : dops P N ops π (Ext w0) K i ρ w :=
  dt_call hi hn hd hg ho hc fun v w' h => ⟨fun hS => hS.trans (hR v w' h), next v w' h⟩
theorem z_slice1 {b t e bytes : Nat} {x : Operand} {u z : Value} [ht : SlT P t e] [he : ElT P e 1 bytes z] (hi : opAt ops π i = some ⟨some d, .buildSlice t 1 #[(0, x)], ty, pos, after, g⟩ := by exact rfl) (h : ev ρ x = u) (hu : u.cells = #[u]) (hz : z.cells = #[z])
    (next : ∀ w' v, Ext w w' → w'.heap.size = w.heap.size + 1 → Sl w.heap.size (w.heap.size + 1) w' v [u] → dops P N ops π (Chg b w0) K (i + 1) (put ρ d v) w')
    (hn : nextOk ops π i = true := by decide +kernel) (hd : d < N := by decide) (hg : Wants ops ρ g := by first | exact True.intro | exact ⟨_, rfl, by ((try simp only [ev_tmp, ev_const, ev_func, get_put, get_args, get_putL, get_putL_nil, Nat.reduceEqDiff, reduceIte, List.getD_cons_zero, List.getD_cons_succ, List.getD_nil, Bool.not_true, Bool.not_false]); first | done | with_reducible rfl)⟩) : dops P N ops π (Chg b w0) K i ρ w := by
  obtain ⟨v, w', hr, he', hs, hsl⟩ := run_slice1 (P := P) (ρ := ρ) (ty := ty) (w := w) (t := t) (ht := ht) (he := he) h hu hz
  exact dt_ex hi hn hd hg hr (fun hS => hS.grow he') (next w' v he' hs hsl)
theorem z_append {s x : Operand} {b t e bytes lo hi' base : Nat} {z v y : Value} {us news : List Value} [ht : SlT P t e] [he : ElT P e 1 bytes z] [hv : OwnN e base w v us] [hy : Sl lo hi' w y news] (hi : opAt ops π i = some ⟨some d, .call { callee := .builtin .append, args := #[s, x], argTypes := #[t, t] }, ty, pos, after, g⟩ := by exact rfl)
    (hs : ev ρ s = v) (hx : ev ρ x = y) (hz : z.cells.size = 1) (h1 : ∀ u ∈ news, u.oneCell' = true) (hb : (us.length + news.length) * bytes ≤ 140737488355328) (hl : us.length + news.length ≤ maxLen) (hbase : base ≤ w.heap.size) (hvb : ∀ g, v.ownBlock = some g → g = b)
    (next : ∀ v' w', OwnN e base w' v' (us ++ news) → w.grownBy w' v.ownBlock → (v'.ownBlock = v.ownBlock ∨ v'.ownBlock = some w.heap.size) → dops P N ops π (Chg b w0) K (i + 1) (put ρ d v') w')
    (hn : nextOk ops π i = true := by decide +kernel) (hd : d < N := by decide) (hg : Wants ops ρ g := by first | exact True.intro | exact ⟨_, rfl, by ((try simp only [ev_tmp, ev_const, ev_func, get_put, get_args, get_putL, get_putL_nil, Nat.reduceEqDiff, reduceIte, List.getD_cons_zero, List.getD_cons_succ, List.getD_nil, Bool.not_true, Bool.not_false]); first | done | with_reducible rfl)⟩) :
    dops P N ops π (Chg b w0) K i ρ w := by
  obtain ⟨v', w', hrun, h2, h3, h4⟩ := run_append (P := P) (ty := ty) ht.eq he hz hv hy h1 hb hl hbase
  have hex : Ex P (.call { callee := .builtin .append, args := #[s, x], argTypes := #[t, t] }) ty ρ w v' w' := by
    constructor; intro _ _ _ _
    simp [execOp, resolve, invoke, builtin, hs, hx, hrun]
  refine dt_ex hi hn hd hg hex (fun hS => hS.trans ⟨?_⟩) (next v' w' h2 h3 h4)
  obtain ⟨a1, a2, a3, a4, a5⟩ := h3
  exact ⟨a1, a2, a3, a4, fun j hj hne => a5 j hj (fun e => hne (by rw [hvb j e.symm]))⟩
end
end Go.Pc

/-
  Plain mathematics: presentations as lists, the product of two exponent vectors by descent through the levels, and that it keeps the ranges.
  Conditions: none; nothing of the program stands here.
-/
namespace Go.Pc

structure Pr where
  ord : List Int
  pow : List (List Int)
  cnj : List (List (List Int))

namespace Pr
def n (p : Pr) : Nat := p.ord.length
def o (p : Pr) (i : Nat) : Int := p.ord.getD i 0
def w (p : Pr) (i : Nat) : List Int := p.pow.getD i []
def c (p : Pr) (i j : Nat) : List Int := (p.cnj.getD i []).getD (j - i - 1) []
end Pr

def zeros (n : Nat) : List Int := List.replicate n 0
def rep {α : Type} : Nat → (α → α) → α → α
  | 0, _, x => x
  | k + 1, f, x => f (rep k f x)
theorem rep_zero {α : Type} (f : α → α) (x : α) : rep 0 f x = x := rfl
theorem rep_succ {α : Type} (k : Nat) (f : α → α) (x : α) : rep (k + 1) f x = f (rep k f x) := rfl

/-- An exponent vector: as many entries as orders, each in its range. -/
structure InR (p : Pr) (v : List Int) : Prop where
  len : v.length = p.n
  rng : ∀ i, i < p.n → 0 ≤ v.getD i 0 ∧ v.getD i 0 < p.o i
/-- Zeros ahead of an index. -/
def ZU (i : Nat) (v : List Int) : Prop := ∀ k, k < i → v.getD k 0 = 0

structure Valid (p : Pr) : Prop where
  n6 : p.n ≤ 6
  lenw : p.pow.length = p.n
  lenc : p.cnj.length = p.n
  lenci : ∀ i, i < p.n → (p.cnj.getD i []).length = p.n - 1 - i
  prime : ∀ i, i < p.n → p.o i = 2 ∨ p.o i = 3 ∨ p.o i = 5 ∨ p.o i = 7
  prod : p.ord.foldl (· * ·) 1 ≤ 729
  w_in : ∀ i, i < p.n → InR p (p.w i)
  w_zu : ∀ i, i < p.n → ZU (i + 1) (p.w i)
  c_in : ∀ i j, i < j → j < p.n → InR p (p.c i j)
  c_zu : ∀ i j, i < j → j < p.n → ZU (i + 1) (p.c i j)

theorem getD_set_eq (v : List Int) (i : Nat) (x : Int) (h : i < v.length) : (v.set i x).getD i 0 = x := by simp [h]
theorem getD_set_ne (v : List Int) (i k : Nat) (x : Int) (h : i ≠ k) : (v.set i x).getD k 0 = v.getD k 0 := by simp [List.getElem?_set_ne h]
theorem zeros_getD (n i : Nat) : (zeros n).getD i 0 = 0 := by
  unfold zeros; rw [List.getD_eq_getElem?_getD, List.getElem?_replicate]; split <;> rfl
theorem zeros_len (n : Nat) : (zeros n).length = n := by simp [zeros]

theorem Valid.opos {p : Pr} (h : Valid p) {i : Nat} (hi : i < p.n) : 2 ≤ p.o i ∧ p.o i ≤ 7 := by have := h.prime i hi; omega
theorem InR.set {p : Pr} {v : List Int} (h : InR p v) {i : Nat} {x : Int} (h0 : 0 ≤ x) (h1 : i < p.n → x < p.o i) : InR p (v.set i x) := by
  refine ⟨by simp [h.len], fun k hk => ?_⟩
  by_cases e : i = k
  · subst e
    rw [getD_set_eq _ _ _ (by rw [h.len]; exact hk)]; exact ⟨h0, h1 hk⟩
  · rw [getD_set_ne _ _ _ _ e]; exact h.rng k hk
theorem Valid.zeros_in {p : Pr} (h : Valid p) : InR p (zeros p.n) := by
  refine ⟨zeros_len _, fun i hi => ?_⟩
  rw [zeros_getD]; have := h.opos hi; omega
theorem ZU.set {v : List Int} {i k : Nat} {x : Int} (h : ZU i v) (hk : i ≤ k) : ZU i (v.set k x) := fun j hj => by
  rw [getD_set_ne _ _ _ _ (by omega)]; exact h j hj
theorem ZU.set0 {v : List Int} {i : Nat} (h : ZU i v) : ZU (i + 1) (v.set i 0) := fun j hj => by
  by_cases e : i = j
  · subst e
    by_cases hl : i < v.length
    · exact getD_set_eq _ _ _ hl
    · rw [List.set_eq_of_length_le (by omega), List.getD_eq_getElem?_getD, List.getElem?_eq_none (by omega)]; rfl
  · rw [getD_set_ne _ _ _ _ e]; exact h j (by omega)
theorem ZU.mono {v : List Int} {i k : Nat} (h : ZU i v) (hk : k ≤ i) : ZU k v := fun j hj => h j (by omega)
theorem zeros_zu (n i : Nat) : ZU i (zeros n) := fun _ _ => zeros_getD _ _

/-- The image of x under generator i, by a product of the next level. -/
def imgBy (mul : List Int → List Int → List Int) (p : Pr) (i : Nat) (x : List Int) : List Int :=
  (List.range' (i + 1) (p.n - (i + 1))).foldl (fun out j => rep (x.getD j 0).toNat (fun o => mul o (p.c i j)) out) (zeros p.n)
/-- The product in the tail of m generators. -/
def atF (p : Pr) : Nat → List Int → List Int → List Int
  | 0, _, _ => zeros p.n
  | m + 1, a, b =>
    let i := p.n - (m + 1)
    let left := rep (b.getD i 0).toNat (imgBy (atF p m) p i) (a.set i 0)
    let rest := atF p m left (b.set i 0)
    if p.o i ≤ a.getD i 0 + b.getD i 0 then (atF p m (p.w i) rest).set i (a.getD i 0 + b.getD i 0 - p.o i) else rest.set i (a.getD i 0 + b.getD i 0)
/-- The product of two vectors with zeros ahead of i. -/
def atv (p : Pr) (i : Nat) (a b : List Int) : List Int := atF p (p.n - i) a b
/-- The image of x under generator i. -/
def img (p : Pr) (i : Nat) (x : List Int) : List Int := imgBy (atv p (i + 1)) p i x
theorem atv_end (p : Pr) (i : Nat) (a b : List Int) (h : p.n ≤ i) : atv p i a b = zeros p.n := by
  unfold atv; rw [show p.n - i = 0 by omega]; rfl
theorem atv_eq (p : Pr) (i : Nat) (a b : List Int) (h : i < p.n) :
    atv p i a b = if p.o i ≤ a.getD i 0 + b.getD i 0
      then (atv p (i + 1) (p.w i) (atv p (i + 1) (rep (b.getD i 0).toNat (img p i) (a.set i 0)) (b.set i 0))).set i (a.getD i 0 + b.getD i 0 - p.o i)
      else (atv p (i + 1) (rep (b.getD i 0).toNat (img p i) (a.set i 0)) (b.set i 0)).set i (a.getD i 0 + b.getD i 0) := by
  have e : p.n - i = (p.n - (i + 1)) + 1 := by omega
  have e2 : p.n - (p.n - (i + 1) + 1) = i := by omega
  unfold atv img atv
  rw [e, atF]
  simp only [e2]

/-- The part of 'img' that stands behind the first j generators: what the loop has made so far. -/
def imgTo (p : Pr) (i : Nat) (x : List Int) (k : Nat) : List Int :=
  (List.range' (i + 1) k).foldl (fun out j => rep (x.getD j 0).toNat (fun o => atv p (i + 1) o (p.c i j)) out) (zeros p.n)
theorem img_eq (p : Pr) (i : Nat) (x : List Int) : img p i x = imgTo p i x (p.n - (i + 1)) := rfl
theorem imgTo_zero (p : Pr) (i : Nat) (x : List Int) : imgTo p i x 0 = zeros p.n := rfl
theorem imgTo_succ (p : Pr) (i : Nat) (x : List Int) (k : Nat) : imgTo p i x (k + 1) = rep (x.getD (i + 1 + k) 0).toNat (fun o => atv p (i + 1) o (p.c i (i + 1 + k))) (imgTo p i x k) := by
  unfold imgTo; rw [List.range'_concat, List.foldl_append]; simp

/-! ### ranges -/
theorem rep_inv {α : Type} (P : α → Prop) {f : α → α} (hf : ∀ x, P x → P (f x)) {x : α} (hx : P x) : ∀ k, P (rep k f x)
  | 0 => hx
  | k + 1 => hf _ (rep_inv P hf hx k)
theorem imgTo_in {p : Pr} {i : Nat} (hv : Valid p) (hm : ∀ a b, InR p a → InR p b → ZU (i + 1) a → ZU (i + 1) b → InR p (atv p (i + 1) a b) ∧ ZU (i + 1) (atv p (i + 1) a b)) (x : List Int) :
    ∀ k, k ≤ p.n - (i + 1) → InR p (imgTo p i x k) ∧ ZU (i + 1) (imgTo p i x k)
  | 0, _ => ⟨hv.zeros_in, zeros_zu _ _⟩
  | k + 1, hk => by
    rw [imgTo_succ]
    exact rep_inv (fun v => InR p v ∧ ZU (i + 1) v) (fun o ho => hm _ _ ho.1 (hv.c_in _ _ (by omega) (by omega)) ho.2 (hv.c_zu _ _ (by omega) (by omega))) (imgTo_in hv hm x k (by omega)) _
theorem atv_in {p : Pr} (hv : Valid p) : ∀ (m i : Nat), p.n - i = m → ∀ a b, InR p a → InR p b → ZU i a → ZU i b → InR p (atv p i a b) ∧ ZU i (atv p i a b)
  | 0, i, hm, a, b, _, _, _, _ => by rw [atv_end _ _ _ _ (by omega)]; exact ⟨hv.zeros_in, zeros_zu _ _⟩
  | m + 1, i, hm, a, b, ha, hb, za, zb => by
    have hi : i < p.n := by omega
    have ih := atv_in hv m (i + 1) (by omega)
    have hl := rep_inv (fun v => InR p v ∧ ZU (i + 1) v) (f := img p i) (fun x _ => imgTo_in hv ih x _ (Nat.le_refl _)) (x := a.set i 0) ⟨ha.set (by omega) (fun h => by have := hv.opos h; omega), za.set0⟩ (b.getD i 0).toNat
    have hr := ih _ _ hl.1 (hb.set (i := i) (x := 0) (by omega) (fun h => by have := hv.opos h; omega)) hl.2 zb.set0
    have h1 := ha.rng i hi
    have h2 := hb.rng i hi
    rw [atv_eq _ _ _ _ hi]
    split
    · have hw := ih _ _ (hv.w_in i hi) hr.1 (hv.w_zu i hi) hr.2
      exact ⟨hw.1.set (by omega) (fun _ => by omega), (hw.2.mono (by omega)).set (Nat.le_refl _)⟩
    · exact ⟨hr.1.set (by omega) (fun _ => by omega), (hr.2.mono (by omega)).set (Nat.le_refl _)⟩
theorem img_in {p : Pr} (hv : Valid p) (i : Nat) (x : List Int) : InR p (img p i x) ∧ ZU (i + 1) (img p i x) := by
  rw [img_eq]; exact imgTo_in hv (atv_in hv _ (i + 1) rfl) x _ (Nat.le_refl _)
end Go.Pc

/-
  What a presentation's value reads as, and what a fresh result is.
  Conditions: none; nothing of the program stands here.
-/
namespace Go.Pc
open Go Go.RowKit
class Pres (lo hi : outParam Nat) (w : World) (v : Value) (p : outParam Pr) : Prop where
  ex : ∃ vo vp vc ps cs css, v = .agg #[vo, vp, vc] ∧ Ints lo hi w vo p.ord ∧ Rows lo hi w vp ps p.pow ∧ Rowss lo hi w vc cs css p.cnj
/-- A list of integers in new memory (its block, if it has any, lies from lo on and is the result's own). -/
class Fr (lo : outParam Nat) (w : World) (v : Value) (xs : outParam (List Int)) : Prop where
  ints : Ints lo w.heap.size w v xs
  own : xs ≠ [] → ∃ e b, lo ≤ b ∧ OwnI e b w v xs
section
variable {e b lo hi : Nat} {w w' : World} {v : Value} {us : List Value} {xs : List Int} {xss : List (List Int)} {p : Pr}
theorem Pres.same (h : Pres lo hi w v p) (k : Same lo hi w w') : Pres lo hi w' v p := by
  obtain ⟨vo, vp, vc, ps, cs, css, rfl, h1, h2, h3⟩ := h.ex
  exact ⟨⟨vo, vp, vc, ps, cs, css, rfl, h1.same k, h2.same k, h3.same k⟩⟩
theorem Pres.wide (h : Pres lo hi w v p) : Pres 0 w.heap.size w v p := by
  obtain ⟨vo, vp, vc, ps, cs, css, rfl, h1, h2, h3⟩ := h.ex
  exact ⟨⟨vo, vp, vc, ps, cs, css, rfl, h1.wide, h2.wide, h3.wide⟩⟩
instance (priority := low) Pres.ext [x : Ext w w'] [h : Pres lo hi w v p] : Pres lo hi w' v p := h.same (x.same _ _)
instance (priority := low) Pres.chg [c : Chg b w w'] [h : Pres lo hi w v p] [a : Apart lo hi b] : Pres lo hi w' v p := h.same (c.same a.out)
theorem OwnI.lt (h : OwnI e b w v xs) : b < w.heap.size := h.own.lt
theorem OwnI.chg' {g : Nat} (h : OwnI e b w v xs) (c : Chg g w w') (hne : b ≠ g) : OwnI e b w' v xs := ⟨h.own.chg' c hne⟩
theorem OwnI.toFr (h : OwnI e b w v xs) (hb : lo ≤ b) : Fr lo w v xs :=
  ⟨(⟨h.own.toSl⟩ : Ints b (b + 1) w v xs).mono hb h.lt, fun _ => ⟨e, b, hb, h⟩⟩
theorem Own.ints (h : Own e b w v (xs.map (Value.int .i64))) : OwnI e b w v xs := ⟨h⟩
theorem OwnN.toOwn {base : Nat} (h : OwnN e base w v us) (hn : us ≠ []) : ∃ b, base ≤ b ∧ v.ownBlock = some b ∧ Own e b w v us := by
  rcases h.own.2 with ⟨rfl, h0⟩ | ⟨g, cap, cur, hv, hb, hg, h1, hm, hs, ht⟩
  · exact absurd (List.eq_nil_of_length_eq_zero h0) hn
  · exact ⟨g, hb, by simp [hv, Value.ownBlock], ⟨cap, cur, hv, hg, h1, hm, by simpa using hs, by simpa using ht⟩⟩
theorem OwnN.toFr {base : Nat} (h : OwnN e base w v (xs.map (Value.int .i64))) : Fr base w v xs := by
  refine ⟨⟨h.toSl⟩, fun hn => ?_⟩
  obtain ⟨b, hb, _, ho⟩ := h.toOwn (by simpa using hn)
  exact ⟨e, b, hb, ⟨ho⟩⟩
instance [h : Fr lo w v xs] : Ints lo w.heap.size w v xs := h.ints
theorem Fr.mono {lo' : Nat} (h : Fr lo w v xs) (hl : lo' ≤ lo) : Fr lo' w v xs :=
  ⟨h.ints.mono hl (Nat.le_refl _), fun hn => let ⟨e, b, h1, h2⟩ := h.own hn; ⟨e, b, by omega, h2⟩⟩
theorem Fr.ext' (h : Fr lo w v xs) (x : Ext w w') : Fr lo w' v xs :=
  ⟨(h.ints.same (x.same _ _)).mono (Nat.le_refl _) x.size, fun hn => let ⟨e, b, h1, h2⟩ := h.own hn; ⟨e, b, h1, @OwnI.ext _ _ _ _ _ _ x h2⟩⟩
theorem oneCells (xs : List Int) : ∀ u ∈ xs.map (Value.int .i64), u.oneCell' = true := by
  intro u hu
  obtain ⟨x, _, rfl⟩ := List.mem_map.1 hu
  rfl
end
end Go.Pc

/-
  Lists of lists that grow: the list is the call's own, its rows lie elsewhere, apart from the blocks that are written.
  Conditions: none; nothing of the program stands here.
-/
namespace Go.Pc
open Go Go.RowKit
/-- The list of integers lies in memory apart from the blocks 'av'. -/
def IntsAp (av : Nat → Prop) (w : World) (v : Value) (xs : List Int) : Prop := ∃ lo hi, Ints lo hi w v xs ∧ hi ≤ w.heap.size ∧ ∀ g, av g → g < lo ∨ hi ≤ g
/-- The rows lie in memory apart from the blocks 'av'. -/
structure RowsAp (av : Nat → Prop) (w : World) (us : List Value) (xss : List (List Int)) : Prop where
  len : us.length = xss.length
  at_ : ∀ i, IntsAp av w (us.getD i nilv) (xss.getD i [])
section
variable {av av' : Nat → Prop} {e base lo hi : Nat} {w w' : World} {v : Value} {us : List Value} {xss : List (List Int)}
theorem Ints.nil_ (w : World) : Ints 0 0 w nilv [] := ⟨⟨⟨none, 0, rfl, Nat.le_refl _, by omega, fun k u hu => by simp at hu⟩⟩⟩
theorem Sl.cells (h : Sl lo hi w v us) : v.cells = #[v] := by obtain ⟨A, c, rfl, _⟩ := h.ex; rfl
theorem Sl.one (h : Sl lo hi w v us) : v.oneCell' = true := by obtain ⟨A, c, rfl, _⟩ := h.ex; rfl
theorem IntsAp.nil (av : Nat → Prop) (w : World) : IntsAp av w nilv [] := ⟨0, 0, Ints.nil_ w, Nat.zero_le _, fun g h => .inr (Nat.zero_le _)⟩
theorem IntsAp.keep {u : Value} {xs : List Int} (h : IntsAp av w u xs) (hs : w.heap.size ≤ w'.heap.size) (hb : ∀ k, k < w.heap.size → ¬ av k → w'.heap[k]? = w.heap[k]?) : IntsAp av w' u xs := by
  obtain ⟨lo, hi, h1, h2, h3⟩ := h
  refine ⟨lo, hi, h1.same fun k k1 k2 k3 => hb k k3 fun hk => ?_, Nat.le_trans h2 hs, h3⟩
  have := h3 k hk
  omega
theorem IntsAp.ext {u : Value} {xs : List Int} (h : IntsAp av w u xs) (x : Ext w w') : IntsAp av w' u xs := h.keep x.size fun k hk _ => x.below.block k hk
theorem IntsAp.weak {u : Value} {xs : List Int} (h : IntsAp av w u xs) (ha : ∀ g, av' g → av g ∨ w.heap.size ≤ g) : IntsAp av' w u xs := by
  obtain ⟨lo, hi, h1, h2, h3⟩ := h
  refine ⟨lo, hi, h1, h2, fun g hg => ?_⟩
  rcases ha g hg with hg | hg
  · exact h3 g hg
  · exact .inr (by omega)
theorem IntsAp.chg {g : Nat} {u : Value} {xs : List Int} (h : IntsAp av w u xs) (c : Chg g w w') (hg : av g) : IntsAp av w' u xs :=
  h.keep c.size fun k hk hn => c.by_.block k hk (fun e => by injection e with e; subst e; exact hn hg)
theorem IntsAp.ofFr {u : Value} {xs : List Int} (h : Fr lo w u xs) (ha : ∀ g, av g → g < lo) : IntsAp av w u xs := ⟨lo, _, h.ints, Nat.le_refl _, fun g hg => .inl (ha g hg)⟩
theorem IntsAp.ints {u : Value} {xs : List Int} (h : IntsAp av w u xs) : Ints 0 w.heap.size w u xs := by
  obtain ⟨lo, hi, h1, h2, h3⟩ := h
  exact h1.mono (Nat.zero_le _) h2
theorem RowsAp.nil (av : Nat → Prop) (w : World) : RowsAp av w [] [] := ⟨rfl, fun i => ⟨0, 0, by simpa using Ints.nil_ w, Nat.zero_le _, fun g h => .inr (Nat.zero_le _)⟩⟩
theorem RowsAp.keep (h : RowsAp av w us xss) (hs : w.heap.size ≤ w'.heap.size) (hb : ∀ k, k < w.heap.size → ¬ av k → w'.heap[k]? = w.heap[k]?) : RowsAp av w' us xss := by
  exact ⟨h.len, fun i => (h.at_ i).keep hs hb⟩
theorem RowsAp.ext (h : RowsAp av w us xss) (x : Ext w w') : RowsAp av w' us xss := h.keep x.size fun k hk _ => x.below.block k hk
theorem RowsAp.chg {g : Nat} (h : RowsAp av w us xss) (c : Chg g w w') (hg : av g) : RowsAp av w' us xss :=
  h.keep c.size fun k hk hn => c.by_.block k hk (fun e => by injection e with e; subst e; exact hn hg)
theorem RowsAp.grown {ob : Option Nat} (h : RowsAp av w us xss) (c : w.grownBy w' ob) (hg : ∀ g, ob = some g → av g) : RowsAp av w' us xss :=
  h.keep c.size fun k hk hn => c.block k hk (fun e => hn (hg k e.symm))
theorem RowsAp.weak (h : RowsAp av w us xss) (ha : ∀ g, av' g → av g ∨ w.heap.size ≤ g) : RowsAp av' w us xss := by
  exact ⟨h.len, fun i => (h.at_ i).weak ha⟩
theorem RowsAp.push {u : Value} {xs : List Int} (h : RowsAp av w us xss) (hu : IntsAp av w u xs) : RowsAp av w (us ++ [u]) (xss ++ [xs]) := by
  refine ⟨by simp [h.len], fun i => ?_⟩
  by_cases hi1 : i < us.length
  · have e1 : (us ++ [u]).getD i nilv = us.getD i nilv := by simp [List.getElem?_append_left hi1]
    have e2 : (xss ++ [xs]).getD i [] = xss.getD i [] := by simp [List.getElem?_append_left (show i < xss.length by rw [← h.len]; exact hi1)]
    rw [e1, e2]
    exact h.at_ i
  · by_cases hi2 : i = us.length
    · subst hi2
      have e1 : (us ++ [u]).getD us.length nilv = u := by simp
      have e2 : (xss ++ [xs]).getD us.length [] = xs := by rw [h.len]; simp
      rw [e1, e2]
      exact hu
    · have e1 : (us ++ [u]).getD i nilv = nilv := by
        rw [List.getD_eq_getElem?_getD, List.getElem?_eq_none (by simp; omega)]; rfl
      have e2 : (xss ++ [xs]).getD i [] = [] := by
        rw [List.getD_eq_getElem?_getD, List.getElem?_eq_none (by simp [← h.len]; omega)]; rfl
      rw [e1, e2]
      exact IntsAp.nil _ _
theorem RowsAp.cons {u : Value} {xs : List Int} (h : RowsAp av w us xss) (hu : IntsAp av w u xs) : RowsAp av w (u :: us) (xs :: xss) := by
  refine ⟨by simp [h.len], fun i => ?_⟩
  cases i with
  | zero => exact hu
  | succ i => exact h.at_ i
theorem RowsAp.set {m : Nat} {u : Value} {xs : List Int} (h : RowsAp av w us xss) (hu : IntsAp av w u xs) (hm : m < us.length) : RowsAp av w (us.set m u) (xss.set m xs) := by
  refine ⟨by simp [h.len], fun i => ?_⟩
  by_cases e1 : m = i
  · subst e1
    have e1 : (us.set m u).getD m nilv = u := by simp [hm]
    have e2 : (xss.set m xs).getD m [] = xs := by simp [show m < xss.length by rw [← h.len]; exact hm]
    rw [e1, e2]
    exact hu
  · have e2 : (us.set m u).getD i nilv = us.getD i nilv := by simp [List.getElem?_set_ne e1]
    have e3 : (xss.set m xs).getD i [] = xss.getD i [] := by simp [List.getElem?_set_ne e1]
    rw [e2, e3]
    exact h.at_ i
theorem RowsAp.take (h : RowsAp av w us xss) (m : Nat) : RowsAp av w (us.take m) (xss.take m) := by
  refine ⟨by simp [h.len], fun i => ?_⟩
  by_cases hi : i < m
  · have e1 : (us.take m).getD i nilv = us.getD i nilv := by simp [List.getElem?_take, hi]
    have e2 : (xss.take m).getD i [] = xss.getD i [] := by simp [List.getElem?_take, hi]
    rw [e1, e2]; exact h.at_ i
  · have e1 : (us.take m).getD i nilv = nilv := by simp [List.getElem?_take, hi]
    have e2 : (xss.take m).getD i [] = [] := by simp [List.getElem?_take, hi]
    rw [e1, e2]
    exact IntsAp.nil _ _
theorem RowsAp.tail {u : Value} {xs : List Int} (h : RowsAp av w (u :: us) (xs :: xss)) : RowsAp av w us xss :=
  ⟨by simpa using h.len, fun i => h.at_ (i + 1)⟩
theorem RowsAp.rows (h : RowsAp av w us xss) (hs : Sl lo hi w v us) : Rows 0 w.heap.size w v us xss := by
  refine ⟨hs.wide, h.len, fun i => ?_⟩
  exact (h.at_ i).ints
structure Lst (e base : Nat) (av : Nat → Prop) (w : World) (v : Value) (us : List Value) (xss : List (List Int)) : Prop where
  own : OwnN e base w v us
  rows : RowsAp (fun g => av g ∨ v.ownBlock = some g) w us xss
  free : ∀ g, v.ownBlock = some g → ¬ av g
  bd : ∀ g, av g → g < w.heap.size
theorem Lst.nil (e base : Nat) (w : World) (hb : ∀ g, av g → g < w.heap.size) : Lst e base av w nilv [] [] := ⟨OwnN.nil e base w, RowsAp.nil _ _, fun g h => (by cases h), hb⟩
theorem Lst.start {b : Nat} (h : Own e b w v []) (hb : base ≤ b) (hf : ¬ av b) (hbd : ∀ g, av g → g < w.heap.size) : Lst e base av w v [] [] :=
  ⟨h.toN.mono hb, RowsAp.nil _ _, fun g hg => by rw [h.toN_block] at hg; injection hg with hg; subst hg; exact hf, hbd⟩
theorem Lst.len (h : Lst e base av w v us xss) : us.length = xss.length := h.rows.len
theorem Lst.lt (h : Lst e base av w v us xss) {g : Nat} (hg : v.ownBlock = some g) : base ≤ g ∧ g < w.heap.size := h.own.lt g hg
theorem Lst.ext (h : Lst e base av w v us xss) (x : Ext w w') : Lst e base av w' v us xss := by
  have := h.own
  exact ⟨inferInstance, h.rows.ext x, h.free, fun g hg => Nat.lt_of_lt_of_le (h.bd g hg) x.size⟩
theorem Lst.chg {g : Nat} (h : Lst e base av w v us xss) (c : Chg g w w') (hg : av g) : Lst e base av w' v us xss :=
  ⟨h.own.other c (fun e => h.free g e hg), h.rows.chg c (.inl hg), h.free, fun g hg => Nat.lt_of_lt_of_le (h.bd g hg) c.size⟩
theorem Lst.grown {ob : Option Nat} (h : Lst e base av w v us xss) (c : w.grownBy w' ob) (hg : ∀ g, ob = some g → av g) : Lst e base av w' v us xss := by
  cases ob with
  | none =>
    refine h.ext ⟨?_⟩
    exact (Below.refl _ _).grown c (Nat.le_refl _) (fun k hk => by cases hk)
  | some b => exact h.chg ⟨c⟩ (hg b rfl)
theorem Lst.weak (h : Lst e base av w v us xss) (ha : ∀ g, av' g → av g ∨ w.heap.size ≤ g) (hf : ∀ g, v.ownBlock = some g → ¬ av' g) (hbd : ∀ g, av' g → g < w.heap.size) : Lst e base av' w v us xss :=
  ⟨h.own, h.rows.weak (fun g hg => hg.elim (fun hg => (ha g hg).imp .inl id) (fun hg => .inl (.inr hg))), hf, hbd⟩
theorem Lst.mono {base' : Nat} (h : Lst e base av w v us xss) (hb : base' ≤ base) : Lst e base' av w v us xss := ⟨h.own.mono hb, h.rows, h.free, h.bd⟩
theorem Lst.toRows (h : Lst e base av w v us xss) : Rows 0 w.heap.size w v us xss := h.rows.rows h.own.toSl
/-- After an append of one row. -/
theorem Lst.push {v' u : Value} {xs : List Int} (h : Lst e base av w v us xss) (hu : IntsAp (fun g => av g ∨ v.ownBlock = some g) w u xs)
    (ho : OwnN e base w' v' (us ++ [u])) (hg : w.grownBy w' v.ownBlock) (hv : v'.ownBlock = v.ownBlock ∨ v'.ownBlock = some w.heap.size) : Lst e base av w' v' (us ++ [u]) (xss ++ [xs]) := by
  refine ⟨ho, ?_, fun g hg' => ?_, fun g hg' => Nat.lt_of_lt_of_le (h.bd g hg') hg.size⟩
  · have h1 : RowsAp (fun g => (av g ∨ v.ownBlock = some g) ∨ v'.ownBlock = some g) w (us ++ [u]) (xss ++ [xs]) := by
      refine (h.rows.push hu).weak fun g hg' => ?_
      rcases hg' with hg' | hg'
      · exact .inl hg'
      · rcases hv with e | e
        · exact .inl (.inr (by rw [← e]; exact hg'))
        · rw [e] at hg'; injection hg' with hg'; exact .inr (by omega)
    refine (h1.grown hg (fun g e => .inl (.inr e))).weak fun g hg' => .inl ?_
    exact hg'.imp .inl id
  · rcases hv with e | e
    · exact h.free g (by rw [← e]; exact hg')
    · rw [e] at hg'; injection hg' with hg'
      intro ha
      have := h.bd g ha
      omega
/-- After a store of one row. -/
theorem Lst.set {b m : Nat} {u : Value} {xs : List Int} (h : Lst e base av w v us xss) (hvb : v.ownBlock = some b) (hu : IntsAp (fun g => av g ∨ v.ownBlock = some g) w u xs)
    (c : Chg b w w') (ho : Own e b w' v (us.set m u)) (hm : m < us.length) : Lst e base av w' v (us.set m u) (xss.set m xs) :=
  ⟨ho.toN.mono (h.lt hvb).1, (h.rows.set hu hm).chg c (.inr hvb), h.free, fun g hg' => Nat.lt_of_lt_of_le (h.bd g hg') c.size⟩
theorem Lst.toOwn {b : Nat} (h : Lst e base av w v us xss) (hvb : v.ownBlock = some b) : Own e b w v us := by
  rcases h.own.own.2 with ⟨rfl, h0⟩ | ⟨g, cap, cur, rfl, hb, hg, h1, hm, hs, ht⟩
  · cases hvb
  · have e : g = b := by simpa [Value.ownBlock] using hvb
    subst e
    exact ⟨cap, cur, rfl, hg, h1, hm, by simpa using hs, by simpa using ht⟩
theorem Ext.app {w0 : World} {ob : Option Nat} (h : Ext w0 w) (hg : w.grownBy w' ob) (hb : ∀ k, ob = some k → w0.heap.size ≤ k) : Ext w0 w' :=
  ⟨h.below.grown hg h.below.size (fun k hk => hb k hk)⟩
/-- What is apart from a list's own block, after the list has grown. -/
theorem IntsAp.beside {ob : Option Nat} {u : Value} {xs : List Int} (h : IntsAp av w u xs) (hg : w.grownBy w' ob) (hob : ∀ g, ob = some g → av g) (ha : ∀ g, av' g → av g ∨ g = w.heap.size) : IntsAp av' w' u xs := by
  have h1 : IntsAp (fun g => av g ∨ av' g) w u xs := h.weak fun g hg => hg.elim .inl fun hg => (ha g hg).imp id fun e => by omega
  exact (h1.keep hg.size fun k hk hn => hg.block k hk (fun e => hn (.inl (hob k e.symm)))).weak fun g hg => .inl (.inr hg)
theorem Lst.beside {ob : Option Nat} (h : Lst e base av w v us xss) (hg : w.grownBy w' ob) (hob : ∀ g, ob = some g → av g) (ha : ∀ g, av' g → av g ∨ (g = w.heap.size ∧ g < w'.heap.size)) : Lst e base av' w' v us xss := by
  have hn : ∀ g, v.ownBlock = some g → ob ≠ some g := fun g e h' => h.free g e (hob g h')
  refine ⟨?_, ⟨h.rows.len, fun i => (h.rows.at_ i).beside hg (fun g e => .inl (hob g e)) fun g hg => ?_⟩, fun g e h' => ?_, fun g hg' => ?_⟩
  · cases ob with
    | none => have := h.own; exact @OwnN.ext _ _ _ _ _ _ ⟨(Below.refl _ _).grown hg (Nat.le_refl _) (fun k hk => by cases hk)⟩ h.own
    | some b => exact h.own.other ⟨hg⟩ (fun e => hn b e rfl)
  · rcases hg with hg | hg
    · exact (ha g hg).imp .inl (·.1)
    · exact .inl (.inr hg)
  · rcases ha g h' with h' | ⟨h', _⟩
    · exact h.free g e h'
    · have := (h.lt e).2; omega
  · rcases ha g hg' with h' | ⟨_, h'⟩
    · exact Nat.lt_of_lt_of_le (h.bd g h') hg.size
    · exact h'
/-- What is apart from all old blocks lies in the new ones. -/
theorem IntsAp.new {s : Nat} {u : Value} {xs : List Int} (h : IntsAp (· < s) w u xs) : Ints s w.heap.size w u xs := by
  obtain ⟨lo, hi, h1, h2, h3⟩ := h
  obtain ⟨A, c, hv, hc, hm, hcell⟩ := h1.sl.ex
  refine ⟨⟨A, c, hv, hc, hm, fun k u hu => ?_⟩⟩
  obtain ⟨a, hA, e1, e2, e3⟩ := hcell k u hu
  refine ⟨a, hA, ?_, by omega, e3⟩
  by_cases hs : a.block < s
  · have := h3 a.block hs; omega
  · omega
theorem Lst.newRows {s : Nat} (h : Lst e s (· < s) w v us xss) : Rows s w.heap.size w v us xss :=
  ⟨h.own.toSl, h.len, fun i => ((h.rows.at_ i).weak (av' := (· < s)) (fun g hg => .inl (.inl hg))).new⟩
/-- A list that is laid anew, with one row ahead of another list's. -/
theorem Lst.front {w1 w2 : World} {b : Nat} {v' u : Value} {xs : List Int} (hr : RowsAp av w us xss) (hu : IntsAp av w u xs) (hbd : ∀ g, av g → g < w.heap.size) (x : Ext w w1) (hb : w.heap.size ≤ b) (hg : w1.grownBy w2 (some b)) (ho : OwnN e base w2 v' (u :: us)) (hv : ∀ g, v'.ownBlock = some g → w.heap.size ≤ g) :
    Lst e base av w2 v' (u :: us) (xs :: xss) := by
  have h1 : RowsAp (fun g => (av g ∨ v'.ownBlock = some g) ∨ g = b) w (u :: us) (xs :: xss) := (hr.cons hu).weak fun g hg' => by
    rcases hg' with (hg' | hg') | hg'
    · exact .inl hg'
    · exact .inr (hv g hg')
    · exact .inr (by omega)
  refine ⟨ho, ((h1.ext x).grown hg (fun g e => .inr (Option.some.inj e).symm)).weak fun g hg' => .inl (.inl hg'), fun g hg' ha => ?_, fun g hg' => ?_⟩
  · have := hv g hg'; have := hbd g ha; omega
  · have := hbd g hg'; have := x.size; have := hg.size; omega
/-- A shorter list in the same block. -/
theorem Lst.cutTo (h : Lst e base av w v us xss) (m : Nat) (hm : m ≤ us.length) : Lst e base av w (Pc.cutTo v m) (us.take m) (xss.take m) := by
  have e := cutTo_block v m
  exact ⟨h.own.cutTo hm, by rw [e]; exact h.rows.take m, by rw [e]; exact h.free, h.bd⟩
end
end Go.Pc

/-
  What a pointer to a presentation reads as; changes of one block behind changes of memory.
  Conditions: none; nothing of the program stands here.
-/
namespace Go.Pc
open Go Go.RowKit
class PresP (lo hi : outParam Nat) (w : World) (v : Value) (p : outParam Pr) : Prop where
  ex : ∃ b o vo vp vc ps cs css, v = .pointer (some ⟨b, o, none⟩) ∧ lo ≤ b ∧ b < hi ∧ Cell w b o vo ∧ Cell w b (o + 1) vp ∧ Cell w b (o + 2) vc ∧ Ints lo hi w vo p.ord ∧ Rows lo hi w vp ps p.pow ∧ Rowss lo hi w vc cs css p.cnj
section
variable {b g lo hi : Nat} {w w' w2 : World} {v : Value} {p : Pr} {xs : List Int} {e : Nat}
theorem PresP.same (h : PresP lo hi w v p) (k : Same lo hi w w') (hs : w.heap.size ≤ w'.heap.size) : PresP lo hi w' v p := by
  obtain ⟨b, o, vo, vp, vc, ps, cs, css, rfl, h1, h2, c0, c1, c2, i0, i1, i2⟩ := h.ex
  have k' : Same b (b + 1) w w' := k.mono h1 h2
  exact ⟨⟨b, o, vo, vp, vc, ps, cs, css, rfl, h1, h2, c0.same k' hs, c1.same k' hs, c2.same k' hs, i0.same k, i1.same k, i2.same k⟩⟩
theorem PresP.wide (h : PresP lo hi w v p) : PresP 0 w.heap.size w v p := by
  obtain ⟨b, o, vo, vp, vc, ps, cs, css, rfl, h1, h2, c0, c1, c2, i0, i1, i2⟩ := h.ex
  exact ⟨⟨b, o, vo, vp, vc, ps, cs, css, rfl, Nat.zero_le _, c0.lt, c0, c1, c2, i0.wide, i1.wide, i2.wide⟩⟩
instance (priority := low) PresP.ext [x : Ext w w'] [h : PresP lo hi w v p] : PresP lo hi w' v p := h.same (x.same _ _) x.size
instance (priority := low) PresP.chg [c : Chg g w w'] [h : PresP lo hi w v p] [a : Apart lo hi g] : PresP lo hi w' v p := h.same (c.same a.out) c.size
theorem Chg.pre (x : Ext w w') (c : Chg b w' w2) (hb : b < w.heap.size) : Chg b w w2 := by
  obtain ⟨a1, a2, a3, a4, a5⟩ := c.by_
  have k1 := x.below
  refine ⟨⟨a1.trans k1.os, a2.trans k1.tape, a3.trans k1.output, Nat.le_trans k1.size a4, fun j hj hn => ?_⟩⟩
  exact (a5 j (Nat.lt_of_lt_of_le hj k1.size) hn).trans (k1.block j hj)
theorem Chg.ofExt (x : Ext w w') : Chg b w w' := (Chg.refl b w).grow x
theorem Chg.app {b : Nat} {w w1 w2 : World} {ob : Option Nat} (h : Chg b w w1) (hg : w1.grownBy w2 ob) (hb : ∀ k, ob = some k → w.heap.size ≤ k) : Chg b w w2 := by
  obtain ⟨a1, a2, a3, a4, a5⟩ := h.by_
  obtain ⟨b1, b2, b3, b4, b5⟩ := hg
  refine ⟨⟨b1.trans a1, b2.trans a2, b3.trans a3, Nat.le_trans a4 b4, fun j hj hn => ?_⟩⟩
  exact (b5 j (Nat.lt_of_lt_of_le hj a4) (fun e => by have := hb j e.symm; omega)).trans (a5 j hj hn)
/-- The block that a presentation given by value is put into. -/
theorem Pres.boxed {vo vp vc : Value} (h : Pres lo hi w (.agg #[vo, vp, vc]) p) (x : Ext w w') (h0 : Cell w' b 0 vo) (h1 : Cell w' b 1 vp) (h2 : Cell w' b 2 vc) : PresP 0 w'.heap.size w' (.pointer (some ⟨b, 0, none⟩)) p := by
  obtain ⟨vo', vp', vc', ps, cs, css, e, i0, i1, i2⟩ := h.ex
  injection e with e
  have e0 : vo = vo' := by have := congrArg (fun a : Array Value => a.getD 0 undef) e; simpa using this
  have e1 : vp = vp' := by have := congrArg (fun a : Array Value => a.getD 1 undef) e; simpa using this
  have e2 : vc = vc' := by have := congrArg (fun a : Array Value => a.getD 2 undef) e; simpa using this
  subst e0 e1 e2
  exact ⟨⟨b, 0, vo, vp, vc, ps, cs, css, rfl, Nat.zero_le _, h0.lt, h0, h1, h2, (i0.same (x.same _ _)).wide, (i1.same (x.same _ _)).wide, (i2.same (x.same _ _)).wide⟩⟩
/-- A pointer to a presentation that is a part of something larger. -/
theorem PresP.part {o : Nat} {vo vp vc : Value} (h : Pres lo hi w (.agg #[vo, vp, vc]) p) (h0 : Cell w b o vo) (h1 : Cell w b (o + 1) vp) (h2 : Cell w b (o + 2) vc) : PresP 0 w.heap.size w (.pointer (some ⟨b, o, none⟩)) p := by
  obtain ⟨vo', vp', vc', ps, cs, css, e, i0, i1, i2⟩ := h.ex
  injection e with e
  have e0 : vo = vo' := by have := congrArg (fun a : Array Value => a.getD 0 undef) e; simpa using this
  have e1 : vp = vp' := by have := congrArg (fun a : Array Value => a.getD 1 undef) e; simpa using this
  have e2 : vc = vc' := by have := congrArg (fun a : Array Value => a.getD 2 undef) e; simpa using this
  subst e0 e1 e2
  exact ⟨⟨b, o, vo, vp, vc, ps, cs, css, rfl, Nat.zero_le _, h0.lt, h0, h1, h2, i0.wide, i1.wide, i2.wide⟩⟩
end
end Go.Pc
