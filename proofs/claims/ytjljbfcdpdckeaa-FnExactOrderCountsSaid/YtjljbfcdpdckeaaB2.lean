/-
  Texts of one proof, put together by program: Types, W01, W07, I01, I01b, Grp, Dyck, Tail, Cons, Coord, Sub, Work, Inv, Coll, Lead, I02, I08, I08b, I08c, Queue, Tab, Can, Seq, W07b.
  Conditions: those told at each part.
-/
import Derived.Test.YtjljbfcdpdckeaaB1
import Derived.Test.YtjljbfcdpdckeaaProg
import Derived.KernelRfl
import Derived.Deep.AppendSrc
set_option linter.unusedVariables false
set_option linter.unusedSimpArgs false
set_option linter.unusedSectionVars false
set_option linter.constructorNameAsVariable false
set_option linter.unnecessarySimpa false
set_option linter.deprecated false
/-
  One instance for each type and each function of the translation, by program (gen_types.py).
  Conditions: none.
-/
namespace Go.Proofs.Ytjljbfcdpdckeaa
open Go Go.Pc
theorem structT {P : Program} {t n : Nat} {fs : Array Field} (h : P.underlying t = some (.struct fs)) (hi : (P.info? t).map (·.size) = some n) : StructT P t n := by
  cases hx : P.info? t with
  | none => rw [hx] at hi; cases hi
  | some i => rw [hx] at hi; exact ⟨⟨fs, i, h, hx, by simpa using hi⟩⟩
theorem zeroT {P : Program} {t n : Nat} {zs : List Value} (h : (P.info? t).map (fun i => (i.zero, i.size)) = some (some (.agg zs.toArray), n)) (hn : n = zs.length) : ZeroT P t zs := by
  cases hx : P.info? t with
  | none => rw [hx] at h; cases h
  | some i => rw [hx] at h; simp at h; exact ⟨⟨i, hx, h.1, by omega⟩⟩
theorem fldT {P : Program} {s f off n : Nat} {fs : Array Field} {fd : Field} (h : P.underlying s = some (.struct fs)) (hf : fs[f]? = some fd) (ho : fd.offset = off) (hi : (P.info? fd.type).map (·.size) = some n) (hn : n ≠ 0) : FldT P s f off := by
  cases hx : P.info? fd.type with
  | none => rw [hx] at hi; cases hi
  | some i => rw [hx] at hi; exact ⟨⟨fs, fd, i, h, hf, ho, hx, by simp at hi; omega⟩⟩
theorem elT {P : Program} {e size bytes : Nat} {z : Value} (h : (P.info? e).map (fun i => (i.size, i.bytes, i.zero)) = some (size, bytes, some z)) : ElT P e size bytes z := by
  cases hx : P.info? e with
  | none => rw [hx] at h; cases h
  | some i => rw [hx] at h; simp at h; exact ⟨⟨i, hx, h.1, h.2.1, h.2.2⟩⟩
instance : Draws Try.prog := ⟨by kernel_rfl⟩
instance : PlainT Try.prog 1 := ⟨⟨_, Try.underlying1, by simp, by simp⟩⟩
instance : PlainT Try.prog 2 := ⟨⟨_, Try.underlying2, by simp, by simp⟩⟩
instance : PlainT Try.prog 3 := ⟨⟨_, Try.underlying3, by simp, by simp⟩⟩
instance : PlainT Try.prog 4 := ⟨⟨_, Try.underlying4, by simp, by simp⟩⟩
instance : PlainT Try.prog 5 := ⟨⟨_, Try.underlying5, by simp, by simp⟩⟩
instance : PlainT Try.prog 9 := ⟨⟨_, Try.underlying9, by simp, by simp⟩⟩
instance : PlainT Try.prog 12 := ⟨⟨_, Try.underlying12, by simp, by simp⟩⟩
instance : PlainT Try.prog 15 := ⟨⟨_, Try.underlying15, by simp, by simp⟩⟩
instance : PlainT Try.prog 16 := ⟨⟨_, Try.underlying16, by simp, by simp⟩⟩
instance : PlainT Try.prog 17 := ⟨⟨_, Try.underlying17, by simp, by simp⟩⟩
instance : PlainT Try.prog 21 := ⟨⟨_, Try.underlying21, by simp, by simp⟩⟩
instance : SlT Try.prog 22 2 := ⟨Try.underlying22⟩
instance : PlainT Try.prog 22 := ⟨⟨_, Try.underlying22, by simp, by simp⟩⟩
instance : SlT Try.prog 23 22 := ⟨Try.underlying23⟩
instance : PlainT Try.prog 23 := ⟨⟨_, Try.underlying23, by simp, by simp⟩⟩
instance : SlT Try.prog 24 23 := ⟨Try.underlying24⟩
instance : PlainT Try.prog 24 := ⟨⟨_, Try.underlying24, by simp, by simp⟩⟩
instance : StructT Try.prog 25 3 := structT Try.underlying25 (by kernel_rfl : (Try.prog.info? 25).map (·.size) = some 3)
instance : ZeroT Try.prog 25 [.slice none 0 0, .slice none 0 0, .slice none 0 0] := zeroT (by kernel_rfl : (Try.prog.info? 25).map (fun i => (i.zero, i.size)) = some (some (.agg #[.slice none 0 0, .slice none 0 0, .slice none 0 0]), 3)) rfl
instance : FldT Try.prog 25 0 0 := fldT Try.underlying25 rfl rfl (by kernel_rfl : (Try.prog.info? 22).map (·.size) = some 1) (by decide)
instance : FldT Try.prog 25 1 1 := fldT Try.underlying25 rfl rfl (by kernel_rfl : (Try.prog.info? 23).map (·.size) = some 1) (by decide)
instance : FldT Try.prog 25 2 2 := fldT Try.underlying25 rfl rfl (by kernel_rfl : (Try.prog.info? 24).map (·.size) = some 1) (by decide)
instance : StructT Try.prog 26 3 := structT Try.underlying26 (by kernel_rfl : (Try.prog.info? 26).map (·.size) = some 3)
instance : ZeroT Try.prog 26 [.slice none 0 0, .slice none 0 0, .slice none 0 0] := zeroT (by kernel_rfl : (Try.prog.info? 26).map (fun i => (i.zero, i.size)) = some (some (.agg #[.slice none 0 0, .slice none 0 0, .slice none 0 0]), 3)) rfl
instance : FldT Try.prog 26 0 0 := fldT Try.underlying26 rfl rfl (by kernel_rfl : (Try.prog.info? 22).map (·.size) = some 1) (by decide)
instance : FldT Try.prog 26 1 1 := fldT Try.underlying26 rfl rfl (by kernel_rfl : (Try.prog.info? 23).map (·.size) = some 1) (by decide)
instance : FldT Try.prog 26 2 2 := fldT Try.underlying26 rfl rfl (by kernel_rfl : (Try.prog.info? 24).map (·.size) = some 1) (by decide)
instance : PlainT Try.prog 27 := ⟨⟨_, Try.underlying27, by simp, by simp⟩⟩
instance : PlainT Try.prog 29 := ⟨⟨_, Try.underlying29, by simp, by simp⟩⟩
instance : StructT Try.prog 30 3 := structT Try.underlying30 (by kernel_rfl : (Try.prog.info? 30).map (·.size) = some 3)
instance : ZeroT Try.prog 30 [.slice none 0 0, .slice none 0 0, .slice none 0 0] := zeroT (by kernel_rfl : (Try.prog.info? 30).map (fun i => (i.zero, i.size)) = some (some (.agg #[.slice none 0 0, .slice none 0 0, .slice none 0 0]), 3)) rfl
instance : FldT Try.prog 30 0 0 := fldT Try.underlying30 rfl rfl (by kernel_rfl : (Try.prog.info? 22).map (·.size) = some 1) (by decide)
instance : FldT Try.prog 30 1 1 := fldT Try.underlying30 rfl rfl (by kernel_rfl : (Try.prog.info? 23).map (·.size) = some 1) (by decide)
instance : FldT Try.prog 30 2 2 := fldT Try.underlying30 rfl rfl (by kernel_rfl : (Try.prog.info? 24).map (·.size) = some 1) (by decide)
instance : PlainT Try.prog 31 := ⟨⟨_, Try.underlying31, by simp, by simp⟩⟩
instance : PlainT Try.prog 32 := ⟨⟨_, Try.underlying32, by simp, by simp⟩⟩
instance : PlainT Try.prog 33 := ⟨⟨_, Try.underlying33, by simp, by simp⟩⟩
instance : PlainT Try.prog 34 := ⟨⟨_, Try.underlying34, by simp, by simp⟩⟩
instance : PlainT Try.prog 35 := ⟨⟨_, Try.underlying35, by simp, by simp⟩⟩
instance : SlT Try.prog 36 5 := ⟨Try.underlying36⟩
instance : PlainT Try.prog 36 := ⟨⟨_, Try.underlying36, by simp, by simp⟩⟩
instance : PlainT Try.prog 37 := ⟨⟨_, Try.underlying37, by simp, by simp⟩⟩
instance : PlainT Try.prog 39 := ⟨⟨_, Try.underlying39, by simp, by simp⟩⟩
instance : PlainT Try.prog 41 := ⟨⟨_, Try.underlying41, by simp, by simp⟩⟩
instance : PlainT Try.prog 42 := ⟨⟨_, Try.underlying42, by simp, by simp⟩⟩
instance : PlainT Try.prog 43 := ⟨⟨_, Try.underlying43, by simp, by simp⟩⟩
instance : PlainT Try.prog 44 := ⟨⟨_, Try.underlying44, by simp, by simp⟩⟩
instance : StructT Try.prog 45 4 := structT Try.underlying45 (by kernel_rfl : (Try.prog.info? 45).map (·.size) = some 4)
instance : ZeroT Try.prog 45 [.int .i64 0, .int .i64 0, .int .i64 0, .int .i64 0] := zeroT (by kernel_rfl : (Try.prog.info? 45).map (fun i => (i.zero, i.size)) = some (some (.agg #[.int .i64 0, .int .i64 0, .int .i64 0, .int .i64 0]), 4)) rfl
instance : FldT Try.prog 45 0 0 := fldT Try.underlying45 rfl rfl (by kernel_rfl : (Try.prog.info? 2).map (·.size) = some 1) (by decide)
instance : FldT Try.prog 45 1 1 := fldT Try.underlying45 rfl rfl (by kernel_rfl : (Try.prog.info? 2).map (·.size) = some 1) (by decide)
instance : FldT Try.prog 45 2 2 := fldT Try.underlying45 rfl rfl (by kernel_rfl : (Try.prog.info? 2).map (·.size) = some 1) (by decide)
instance : FldT Try.prog 45 3 3 := fldT Try.underlying45 rfl rfl (by kernel_rfl : (Try.prog.info? 2).map (·.size) = some 1) (by decide)
instance : StructT Try.prog 46 4 := structT Try.underlying46 (by kernel_rfl : (Try.prog.info? 46).map (·.size) = some 4)
instance : ZeroT Try.prog 46 [.int .i64 0, .int .i64 0, .int .i64 0, .int .i64 0] := zeroT (by kernel_rfl : (Try.prog.info? 46).map (fun i => (i.zero, i.size)) = some (some (.agg #[.int .i64 0, .int .i64 0, .int .i64 0, .int .i64 0]), 4)) rfl
instance : FldT Try.prog 46 0 0 := fldT Try.underlying46 rfl rfl (by kernel_rfl : (Try.prog.info? 2).map (·.size) = some 1) (by decide)
instance : FldT Try.prog 46 1 1 := fldT Try.underlying46 rfl rfl (by kernel_rfl : (Try.prog.info? 2).map (·.size) = some 1) (by decide)
instance : FldT Try.prog 46 2 2 := fldT Try.underlying46 rfl rfl (by kernel_rfl : (Try.prog.info? 2).map (·.size) = some 1) (by decide)
instance : FldT Try.prog 46 3 3 := fldT Try.underlying46 rfl rfl (by kernel_rfl : (Try.prog.info? 2).map (·.size) = some 1) (by decide)
instance : PlainT Try.prog 48 := ⟨⟨_, Try.underlying48, by simp, by simp⟩⟩
instance : PlainT Try.prog 49 := ⟨⟨_, Try.underlying49, by simp, by simp⟩⟩
instance : PlainT Try.prog 51 := ⟨⟨_, Try.underlying51, by simp, by simp⟩⟩
instance : PlainT Try.prog 53 := ⟨⟨_, Try.underlying53, by simp, by simp⟩⟩
instance : PlainT Try.prog 54 := ⟨⟨_, Try.underlying54, by simp, by simp⟩⟩
instance : PlainT Try.prog 55 := ⟨⟨_, Try.underlying55, by simp, by simp⟩⟩
instance : PlainT Try.prog 56 := ⟨⟨_, Try.underlying56, by simp, by simp⟩⟩
instance : PlainT Try.prog 57 := ⟨⟨_, Try.underlying57, by simp, by simp⟩⟩
instance : PlainT Try.prog 58 := ⟨⟨_, Try.underlying58, by simp, by simp⟩⟩
instance : PlainT Try.prog 59 := ⟨⟨_, Try.underlying59, by simp, by simp⟩⟩
instance : PlainT Try.prog 61 := ⟨⟨_, Try.underlying61, by simp, by simp⟩⟩
instance : PlainT Try.prog 62 := ⟨⟨_, Try.underlying62, by simp, by simp⟩⟩
instance : PlainT Try.prog 63 := ⟨⟨_, Try.underlying63, by simp, by simp⟩⟩
instance : PlainT Try.prog 65 := ⟨⟨_, Try.underlying65, by simp, by simp⟩⟩
instance : PlainT Try.prog 66 := ⟨⟨_, Try.underlying66, by simp, by simp⟩⟩
instance : PlainT Try.prog 67 := ⟨⟨_, Try.underlying67, by simp, by simp⟩⟩
instance : PlainT Try.prog 68 := ⟨⟨_, Try.underlying68, by simp, by simp⟩⟩
instance : PlainT Try.prog 70 := ⟨⟨_, Try.underlying70, by simp, by simp⟩⟩
instance : PlainT Try.prog 71 := ⟨⟨_, Try.underlying71, by simp, by simp⟩⟩
instance : PlainT Try.prog 72 := ⟨⟨_, Try.underlying72, by simp, by simp⟩⟩
instance : PlainT Try.prog 73 := ⟨⟨_, Try.underlying73, by simp, by simp⟩⟩
instance : PlainT Try.prog 74 := ⟨⟨_, Try.underlying74, by simp, by simp⟩⟩
instance : PlainT Try.prog 75 := ⟨⟨_, Try.underlying75, by simp, by simp⟩⟩
instance : PlainT Try.prog 76 := ⟨⟨_, Try.underlying76, by simp, by simp⟩⟩
instance : PlainT Try.prog 77 := ⟨⟨_, Try.underlying77, by simp, by simp⟩⟩
instance : PlainT Try.prog 78 := ⟨⟨_, Try.underlying78, by simp, by simp⟩⟩
instance : PlainT Try.prog 79 := ⟨⟨_, Try.underlying79, by simp, by simp⟩⟩
instance : PlainT Try.prog 81 := ⟨⟨_, Try.underlying81, by simp, by simp⟩⟩
instance : PlainT Try.prog 82 := ⟨⟨_, Try.underlying82, by simp, by simp⟩⟩
instance : PlainT Try.prog 83 := ⟨⟨_, Try.underlying83, by simp, by simp⟩⟩
instance : PlainT Try.prog 84 := ⟨⟨_, Try.underlying84, by simp, by simp⟩⟩
instance : PlainT Try.prog 85 := ⟨⟨_, Try.underlying85, by simp, by simp⟩⟩
instance : PlainT Try.prog 86 := ⟨⟨_, Try.underlying86, by simp, by simp⟩⟩
instance : PlainT Try.prog 87 := ⟨⟨_, Try.underlying87, by simp, by simp⟩⟩
instance : PlainT Try.prog 88 := ⟨⟨_, Try.underlying88, by simp, by simp⟩⟩
instance : PlainT Try.prog 89 := ⟨⟨_, Try.underlying89, by simp, by simp⟩⟩
instance : PlainT Try.prog 90 := ⟨⟨_, Try.underlying90, by simp, by simp⟩⟩
instance : PlainT Try.prog 92 := ⟨⟨_, Try.underlying92, by simp, by simp⟩⟩
instance : PlainT Try.prog 93 := ⟨⟨_, Try.underlying93, by simp, by simp⟩⟩
instance : PlainT Try.prog 95 := ⟨⟨_, Try.underlying95, by simp, by simp⟩⟩
instance : PlainT Try.prog 96 := ⟨⟨_, Try.underlying96, by simp, by simp⟩⟩
instance : PlainT Try.prog 97 := ⟨⟨_, Try.underlying97, by simp, by simp⟩⟩
instance : PlainT Try.prog 98 := ⟨⟨_, Try.underlying98, by simp, by simp⟩⟩
instance : PlainT Try.prog 99 := ⟨⟨_, Try.underlying99, by simp, by simp⟩⟩
instance : PlainT Try.prog 100 := ⟨⟨_, Try.underlying100, by simp, by simp⟩⟩
instance : PlainT Try.prog 101 := ⟨⟨_, Try.underlying101, by simp, by simp⟩⟩
instance : PlainT Try.prog 102 := ⟨⟨_, Try.underlying102, by simp, by simp⟩⟩
instance : PlainT Try.prog 103 := ⟨⟨_, Try.underlying103, by simp, by simp⟩⟩
instance : StructT Try.prog 104 3 := structT Try.underlying104 (by kernel_rfl : (Try.prog.info? 104).map (·.size) = some 3)
instance : ZeroT Try.prog 104 [.slice none 0 0, .int .i64 0, .int .u64 0] := zeroT (by kernel_rfl : (Try.prog.info? 104).map (fun i => (i.zero, i.size)) = some (some (.agg #[.slice none 0 0, .int .i64 0, .int .u64 0]), 3)) rfl
instance : FldT Try.prog 104 0 0 := fldT Try.underlying104 rfl rfl (by kernel_rfl : (Try.prog.info? 36).map (·.size) = some 1) (by decide)
instance : FldT Try.prog 104 1 1 := fldT Try.underlying104 rfl rfl (by kernel_rfl : (Try.prog.info? 3).map (·.size) = some 1) (by decide)
instance : FldT Try.prog 104 2 2 := fldT Try.underlying104 rfl rfl (by kernel_rfl : (Try.prog.info? 57).map (·.size) = some 1) (by decide)
instance : StructT Try.prog 105 3 := structT Try.underlying105 (by kernel_rfl : (Try.prog.info? 105).map (·.size) = some 3)
instance : ZeroT Try.prog 105 [.slice none 0 0, .int .i64 0, .int .u64 0] := zeroT (by kernel_rfl : (Try.prog.info? 105).map (fun i => (i.zero, i.size)) = some (some (.agg #[.slice none 0 0, .int .i64 0, .int .u64 0]), 3)) rfl
instance : FldT Try.prog 105 0 0 := fldT Try.underlying105 rfl rfl (by kernel_rfl : (Try.prog.info? 36).map (·.size) = some 1) (by decide)
instance : FldT Try.prog 105 1 1 := fldT Try.underlying105 rfl rfl (by kernel_rfl : (Try.prog.info? 3).map (·.size) = some 1) (by decide)
instance : FldT Try.prog 105 2 2 := fldT Try.underlying105 rfl rfl (by kernel_rfl : (Try.prog.info? 57).map (·.size) = some 1) (by decide)
instance : PlainT Try.prog 106 := ⟨⟨_, Try.underlying106, by simp, by simp⟩⟩
instance : PlainT Try.prog 107 := ⟨⟨_, Try.underlying107, by simp, by simp⟩⟩
instance : PlainT Try.prog 108 := ⟨⟨_, Try.underlying108, by simp, by simp⟩⟩
instance : PlainT Try.prog 110 := ⟨⟨_, Try.underlying110, by simp, by simp⟩⟩
instance : PlainT Try.prog 111 := ⟨⟨_, Try.underlying111, by simp, by simp⟩⟩
instance : PlainT Try.prog 112 := ⟨⟨_, Try.underlying112, by simp, by simp⟩⟩
instance : PlainT Try.prog 113 := ⟨⟨_, Try.underlying113, by simp, by simp⟩⟩
instance : PlainT Try.prog 114 := ⟨⟨_, Try.underlying114, by simp, by simp⟩⟩
instance : PlainT Try.prog 115 := ⟨⟨_, Try.underlying115, by simp, by simp⟩⟩
instance : PlainT Try.prog 116 := ⟨⟨_, Try.underlying116, by simp, by simp⟩⟩
instance : PlainT Try.prog 117 := ⟨⟨_, Try.underlying117, by simp, by simp⟩⟩
instance : PlainT Try.prog 118 := ⟨⟨_, Try.underlying118, by simp, by simp⟩⟩
instance : SlT Try.prog 119 4 := ⟨Try.underlying119⟩
instance : PlainT Try.prog 119 := ⟨⟨_, Try.underlying119, by simp, by simp⟩⟩
instance : PlainT Try.prog 120 := ⟨⟨_, Try.underlying120, by simp, by simp⟩⟩
instance : PlainT Try.prog 121 := ⟨⟨_, Try.underlying121, by simp, by simp⟩⟩
instance : PlainT Try.prog 122 := ⟨⟨_, Try.underlying122, by simp, by simp⟩⟩
instance : PlainT Try.prog 123 := ⟨⟨_, Try.underlying123, by simp, by simp⟩⟩
instance : PlainT Try.prog 125 := ⟨⟨_, Try.underlying125, by simp, by simp⟩⟩
instance : PlainT Try.prog 126 := ⟨⟨_, Try.underlying126, by simp, by simp⟩⟩
instance : PlainT Try.prog 127 := ⟨⟨_, Try.underlying127, by simp, by simp⟩⟩
instance : StructT Try.prog 128 3 := structT Try.underlying128 (by kernel_rfl : (Try.prog.info? 128).map (·.size) = some 3)
instance : ZeroT Try.prog 128 [.slice none 0 0, .int .i64 0, .int .i64 0] := zeroT (by kernel_rfl : (Try.prog.info? 128).map (fun i => (i.zero, i.size)) = some (some (.agg #[.slice none 0 0, .int .i64 0, .int .i64 0]), 3)) rfl
instance : FldT Try.prog 128 0 0 := fldT Try.underlying128 rfl rfl (by kernel_rfl : (Try.prog.info? 36).map (·.size) = some 1) (by decide)
instance : FldT Try.prog 128 1 1 := fldT Try.underlying128 rfl rfl (by kernel_rfl : (Try.prog.info? 3).map (·.size) = some 1) (by decide)
instance : FldT Try.prog 128 2 2 := fldT Try.underlying128 rfl rfl (by kernel_rfl : (Try.prog.info? 2).map (·.size) = some 1) (by decide)
instance : StructT Try.prog 129 3 := structT Try.underlying129 (by kernel_rfl : (Try.prog.info? 129).map (·.size) = some 3)
instance : ZeroT Try.prog 129 [.slice none 0 0, .int .i64 0, .int .i64 0] := zeroT (by kernel_rfl : (Try.prog.info? 129).map (fun i => (i.zero, i.size)) = some (some (.agg #[.slice none 0 0, .int .i64 0, .int .i64 0]), 3)) rfl
instance : FldT Try.prog 129 0 0 := fldT Try.underlying129 rfl rfl (by kernel_rfl : (Try.prog.info? 36).map (·.size) = some 1) (by decide)
instance : FldT Try.prog 129 1 1 := fldT Try.underlying129 rfl rfl (by kernel_rfl : (Try.prog.info? 3).map (·.size) = some 1) (by decide)
instance : FldT Try.prog 129 2 2 := fldT Try.underlying129 rfl rfl (by kernel_rfl : (Try.prog.info? 2).map (·.size) = some 1) (by decide)
instance : PlainT Try.prog 130 := ⟨⟨_, Try.underlying130, by simp, by simp⟩⟩
instance : PlainT Try.prog 131 := ⟨⟨_, Try.underlying131, by simp, by simp⟩⟩
instance : PlainT Try.prog 132 := ⟨⟨_, Try.underlying132, by simp, by simp⟩⟩
instance : PlainT Try.prog 133 := ⟨⟨_, Try.underlying133, by simp, by simp⟩⟩
instance : PlainT Try.prog 134 := ⟨⟨_, Try.underlying134, by simp, by simp⟩⟩
instance : PlainT Try.prog 135 := ⟨⟨_, Try.underlying135, by simp, by simp⟩⟩
instance : PlainT Try.prog 137 := ⟨⟨_, Try.underlying137, by simp, by simp⟩⟩
instance : PlainT Try.prog 138 := ⟨⟨_, Try.underlying138, by simp, by simp⟩⟩
instance : PlainT Try.prog 139 := ⟨⟨_, Try.underlying139, by simp, by simp⟩⟩
instance : PlainT Try.prog 140 := ⟨⟨_, Try.underlying140, by simp, by simp⟩⟩
instance : PlainT Try.prog 141 := ⟨⟨_, Try.underlying141, by simp, by simp⟩⟩
instance : PlainT Try.prog 142 := ⟨⟨_, Try.underlying142, by simp, by simp⟩⟩
instance : PlainT Try.prog 143 := ⟨⟨_, Try.underlying143, by simp, by simp⟩⟩
instance : PlainT Try.prog 144 := ⟨⟨_, Try.underlying144, by simp, by simp⟩⟩
instance : PlainT Try.prog 145 := ⟨⟨_, Try.underlying145, by simp, by simp⟩⟩
instance : PlainT Try.prog 146 := ⟨⟨_, Try.underlying146, by simp, by simp⟩⟩
instance : PlainT Try.prog 147 := ⟨⟨_, Try.underlying147, by simp, by simp⟩⟩
instance : PlainT Try.prog 148 := ⟨⟨_, Try.underlying148, by simp, by simp⟩⟩
instance : PlainT Try.prog 149 := ⟨⟨_, Try.underlying149, by simp, by simp⟩⟩
instance : PlainT Try.prog 150 := ⟨⟨_, Try.underlying150, by simp, by simp⟩⟩
instance : PlainT Try.prog 151 := ⟨⟨_, Try.underlying151, by simp, by simp⟩⟩
instance : PlainT Try.prog 152 := ⟨⟨_, Try.underlying152, by simp, by simp⟩⟩
instance : PlainT Try.prog 153 := ⟨⟨_, Try.underlying153, by simp, by simp⟩⟩
instance : PlainT Try.prog 154 := ⟨⟨_, Try.underlying154, by simp, by simp⟩⟩
instance : PlainT Try.prog 155 := ⟨⟨_, Try.underlying155, by simp, by simp⟩⟩
instance : PlainT Try.prog 156 := ⟨⟨_, Try.underlying156, by simp, by simp⟩⟩
instance : PlainT Try.prog 157 := ⟨⟨_, Try.underlying157, by simp, by simp⟩⟩
instance : PlainT Try.prog 158 := ⟨⟨_, Try.underlying158, by simp, by simp⟩⟩
instance : PlainT Try.prog 159 := ⟨⟨_, Try.underlying159, by simp, by simp⟩⟩
instance : PlainT Try.prog 160 := ⟨⟨_, Try.underlying160, by simp, by simp⟩⟩
instance : PlainT Try.prog 161 := ⟨⟨_, Try.underlying161, by simp, by simp⟩⟩
instance : PlainT Try.prog 162 := ⟨⟨_, Try.underlying162, by simp, by simp⟩⟩
instance : PlainT Try.prog 163 := ⟨⟨_, Try.underlying163, by simp, by simp⟩⟩
instance : PlainT Try.prog 164 := ⟨⟨_, Try.underlying164, by simp, by simp⟩⟩
instance : PlainT Try.prog 165 := ⟨⟨_, Try.underlying165, by simp, by simp⟩⟩
instance : PlainT Try.prog 166 := ⟨⟨_, Try.underlying166, by simp, by simp⟩⟩
instance : PlainT Try.prog 167 := ⟨⟨_, Try.underlying167, by simp, by simp⟩⟩
instance : PlainT Try.prog 168 := ⟨⟨_, Try.underlying168, by simp, by simp⟩⟩
instance : PlainT Try.prog 169 := ⟨⟨_, Try.underlying169, by simp, by simp⟩⟩
instance : PlainT Try.prog 170 := ⟨⟨_, Try.underlying170, by simp, by simp⟩⟩
instance : PlainT Try.prog 171 := ⟨⟨_, Try.underlying171, by simp, by simp⟩⟩
instance : PlainT Try.prog 172 := ⟨⟨_, Try.underlying172, by simp, by simp⟩⟩
instance : PlainT Try.prog 173 := ⟨⟨_, Try.underlying173, by simp, by simp⟩⟩
instance : PlainT Try.prog 174 := ⟨⟨_, Try.underlying174, by simp, by simp⟩⟩
instance : PlainT Try.prog 175 := ⟨⟨_, Try.underlying175, by simp, by simp⟩⟩
instance : PlainT Try.prog 176 := ⟨⟨_, Try.underlying176, by simp, by simp⟩⟩
instance : PlainT Try.prog 177 := ⟨⟨_, Try.underlying177, by simp, by simp⟩⟩
instance : PlainT Try.prog 178 := ⟨⟨_, Try.underlying178, by simp, by simp⟩⟩
instance : PlainT Try.prog 179 := ⟨⟨_, Try.underlying179, by simp, by simp⟩⟩
instance : PlainT Try.prog 180 := ⟨⟨_, Try.underlying180, by simp, by simp⟩⟩
instance : PlainT Try.prog 182 := ⟨⟨_, Try.underlying182, by simp, by simp⟩⟩
instance : PlainT Try.prog 183 := ⟨⟨_, Try.underlying183, by simp, by simp⟩⟩
instance : PlainT Try.prog 184 := ⟨⟨_, Try.underlying184, by simp, by simp⟩⟩
instance : PlainT Try.prog 185 := ⟨⟨_, Try.underlying185, by simp, by simp⟩⟩
instance : PlainT Try.prog 186 := ⟨⟨_, Try.underlying186, by simp, by simp⟩⟩
instance : PlainT Try.prog 187 := ⟨⟨_, Try.underlying187, by simp, by simp⟩⟩
instance : PlainT Try.prog 188 := ⟨⟨_, Try.underlying188, by simp, by simp⟩⟩
instance : PlainT Try.prog 189 := ⟨⟨_, Try.underlying189, by simp, by simp⟩⟩
instance : PlainT Try.prog 190 := ⟨⟨_, Try.underlying190, by simp, by simp⟩⟩
instance : PlainT Try.prog 191 := ⟨⟨_, Try.underlying191, by simp, by simp⟩⟩
instance : PlainT Try.prog 192 := ⟨⟨_, Try.underlying192, by simp, by simp⟩⟩
instance : PlainT Try.prog 193 := ⟨⟨_, Try.underlying193, by simp, by simp⟩⟩
instance : PlainT Try.prog 194 := ⟨⟨_, Try.underlying194, by simp, by simp⟩⟩
instance : PlainT Try.prog 195 := ⟨⟨_, Try.underlying195, by simp, by simp⟩⟩
instance : PlainT Try.prog 196 := ⟨⟨_, Try.underlying196, by simp, by simp⟩⟩
instance : PlainT Try.prog 197 := ⟨⟨_, Try.underlying197, by simp, by simp⟩⟩
instance : PlainT Try.prog 198 := ⟨⟨_, Try.underlying198, by simp, by simp⟩⟩
instance : SlT Try.prog 199 9 := ⟨Try.underlying199⟩
instance : PlainT Try.prog 199 := ⟨⟨_, Try.underlying199, by simp, by simp⟩⟩
instance : PlainT Try.prog 200 := ⟨⟨_, Try.underlying200, by simp, by simp⟩⟩
instance : PlainT Try.prog 201 := ⟨⟨_, Try.underlying201, by simp, by simp⟩⟩
instance : PlainT Try.prog 202 := ⟨⟨_, Try.underlying202, by simp, by simp⟩⟩
instance : PlainT Try.prog 203 := ⟨⟨_, Try.underlying203, by simp, by simp⟩⟩
instance : PlainT Try.prog 204 := ⟨⟨_, Try.underlying204, by simp, by simp⟩⟩
instance : PlainT Try.prog 205 := ⟨⟨_, Try.underlying205, by simp, by simp⟩⟩
instance : PlainT Try.prog 206 := ⟨⟨_, Try.underlying206, by simp, by simp⟩⟩
instance : PlainT Try.prog 207 := ⟨⟨_, Try.underlying207, by simp, by simp⟩⟩
instance : PlainT Try.prog 208 := ⟨⟨_, Try.underlying208, by simp, by simp⟩⟩
instance : PlainT Try.prog 209 := ⟨⟨_, Try.underlying209, by simp, by simp⟩⟩
instance : PlainT Try.prog 210 := ⟨⟨_, Try.underlying210, by simp, by simp⟩⟩
instance : PlainT Try.prog 211 := ⟨⟨_, Try.underlying211, by simp, by simp⟩⟩
instance : PlainT Try.prog 213 := ⟨⟨_, Try.underlying213, by simp, by simp⟩⟩
instance : PlainT Try.prog 214 := ⟨⟨_, Try.underlying214, by simp, by simp⟩⟩
instance : PlainT Try.prog 215 := ⟨⟨_, Try.underlying215, by simp, by simp⟩⟩
instance : PlainT Try.prog 217 := ⟨⟨_, Try.underlying217, by simp, by simp⟩⟩
instance : PlainT Try.prog 218 := ⟨⟨_, Try.underlying218, by simp, by simp⟩⟩
instance : PlainT Try.prog 219 := ⟨⟨_, Try.underlying219, by simp, by simp⟩⟩
instance : PlainT Try.prog 220 := ⟨⟨_, Try.underlying220, by simp, by simp⟩⟩
instance : PlainT Try.prog 221 := ⟨⟨_, Try.underlying221, by simp, by simp⟩⟩
instance : PlainT Try.prog 222 := ⟨⟨_, Try.underlying222, by simp, by simp⟩⟩
instance : PlainT Try.prog 223 := ⟨⟨_, Try.underlying223, by simp, by simp⟩⟩
instance : PlainT Try.prog 224 := ⟨⟨_, Try.underlying224, by simp, by simp⟩⟩
instance : PlainT Try.prog 230 := ⟨⟨_, Try.underlying230, by simp, by simp⟩⟩
instance : PlainT Try.prog 233 := ⟨⟨_, Try.underlying233, by simp, by simp⟩⟩
instance : PlainT Try.prog 234 := ⟨⟨_, Try.underlying234, by simp, by simp⟩⟩
instance : ElT Try.prog 2 1 8 (.int .i64 0) := elT (by kernel_rfl : (Try.prog.info? 2).map (fun i => (i.size, i.bytes, i.zero)) = some (1, 8, some (.int .i64 0)))
instance : ElT Try.prog 4 1 1 (.bool false) := elT (by kernel_rfl : (Try.prog.info? 4).map (fun i => (i.size, i.bytes, i.zero)) = some (1, 1, some (.bool false)))
instance : ElT Try.prog 5 1 1 (.int .u8 0) := elT (by kernel_rfl : (Try.prog.info? 5).map (fun i => (i.size, i.bytes, i.zero)) = some (1, 1, some (.int .u8 0)))
instance : ElT Try.prog 9 1 16 (.string ⟨#[]⟩) := elT (by kernel_rfl : (Try.prog.info? 9).map (fun i => (i.size, i.bytes, i.zero)) = some (1, 16, some (.string ⟨#[]⟩)))
instance : ElT Try.prog 22 1 24 (.slice none 0 0) := elT (by kernel_rfl : (Try.prog.info? 22).map (fun i => (i.size, i.bytes, i.zero)) = some (1, 24, some (.slice none 0 0)))
instance : ElT Try.prog 23 1 24 (.slice none 0 0) := elT (by kernel_rfl : (Try.prog.info? 23).map (fun i => (i.size, i.bytes, i.zero)) = some (1, 24, some (.slice none 0 0)))
instance : ElT Try.prog 24 1 24 (.slice none 0 0) := elT (by kernel_rfl : (Try.prog.info? 24).map (fun i => (i.size, i.bytes, i.zero)) = some (1, 24, some (.slice none 0 0)))
instance : ElT Try.prog 36 1 24 (.slice none 0 0) := elT (by kernel_rfl : (Try.prog.info? 36).map (fun i => (i.size, i.bytes, i.zero)) = some (1, 24, some (.slice none 0 0)))
instance : ElT Try.prog 119 1 24 (.slice none 0 0) := elT (by kernel_rfl : (Try.prog.info? 119).map (fun i => (i.size, i.bytes, i.zero)) = some (1, 24, some (.slice none 0 0)))
instance : ElT Try.prog 199 1 24 (.slice none 0 0) := elT (by kernel_rfl : (Try.prog.info? 199).map (fun i => (i.size, i.bytes, i.zero)) = some (1, 24, some (.slice none 0 0)))
instance : FnT Try.prog 3 := ⟨⟨_, _, Try.func3, rfl, by simp [Try.f3]⟩⟩
instance : FnT Try.prog 4 := ⟨⟨_, _, Try.func4, rfl, by simp [Try.f4]⟩⟩
instance : FnT Try.prog 5 := ⟨⟨_, _, Try.func5, rfl, by simp [Try.f5]⟩⟩
instance : FnT Try.prog 6 := ⟨⟨_, _, Try.func6, rfl, by simp [Try.f6]⟩⟩
instance : FnT Try.prog 7 := ⟨⟨_, _, Try.func7, rfl, by simp [Try.f7]⟩⟩
instance : FnT Try.prog 8 := ⟨⟨_, _, Try.func8, rfl, by simp [Try.f8]⟩⟩
instance : FnT Try.prog 9 := ⟨⟨_, _, Try.func9, rfl, by simp [Try.f9]⟩⟩
instance : FnT Try.prog 10 := ⟨⟨_, _, Try.func10, rfl, by simp [Try.f10]⟩⟩
instance : FnT Try.prog 11 := ⟨⟨_, _, Try.func11, rfl, by simp [Try.f11]⟩⟩
instance : FnT Try.prog 12 := ⟨⟨_, _, Try.func12, rfl, by simp [Try.f12]⟩⟩
instance : FnT Try.prog 13 := ⟨⟨_, _, Try.func13, rfl, by simp [Try.f13]⟩⟩
instance : FnT Try.prog 14 := ⟨⟨_, _, Try.func14, rfl, by simp [Try.f14]⟩⟩
instance : FnT Try.prog 15 := ⟨⟨_, _, Try.func15, rfl, by simp [Try.f15]⟩⟩
instance : FnT Try.prog 16 := ⟨⟨_, _, Try.func16, rfl, by simp [Try.f16]⟩⟩
instance : FnT Try.prog 17 := ⟨⟨_, _, Try.func17, rfl, by simp [Try.f17]⟩⟩
instance : FnT Try.prog 18 := ⟨⟨_, _, Try.func18, rfl, by simp [Try.f18]⟩⟩
instance : FnT Try.prog 19 := ⟨⟨_, _, Try.func19, rfl, by simp [Try.f19]⟩⟩
instance : FnT Try.prog 20 := ⟨⟨_, _, Try.func20, rfl, by simp [Try.f20]⟩⟩
instance : FnT Try.prog 21 := ⟨⟨_, _, Try.func21, rfl, by simp [Try.f21]⟩⟩
instance : FnT Try.prog 22 := ⟨⟨_, _, Try.func22, rfl, by simp [Try.f22]⟩⟩
instance : FnT Try.prog 23 := ⟨⟨_, _, Try.func23, rfl, by simp [Try.f23]⟩⟩
instance : FnT Try.prog 24 := ⟨⟨_, _, Try.func24, rfl, by simp [Try.f24]⟩⟩
instance : FnT Try.prog 25 := ⟨⟨_, _, Try.func25, rfl, by simp [Try.f25]⟩⟩
instance : FnT Try.prog 26 := ⟨⟨_, _, Try.func26, rfl, by simp [Try.f26]⟩⟩
instance : FnT Try.prog 27 := ⟨⟨_, _, Try.func27, rfl, by simp [Try.f27]⟩⟩
instance : FnT Try.prog 28 := ⟨⟨_, _, Try.func28, rfl, by simp [Try.f28]⟩⟩
instance : FnT Try.prog 29 := ⟨⟨_, _, Try.func29, rfl, by simp [Try.f29]⟩⟩
instance : FnT Try.prog 30 := ⟨⟨_, _, Try.func30, rfl, by simp [Try.f30]⟩⟩
instance : FnT Try.prog 31 := ⟨⟨_, _, Try.func31, rfl, by simp [Try.f31]⟩⟩
instance : FnT Try.prog 32 := ⟨⟨_, _, Try.func32, rfl, by simp [Try.f32]⟩⟩
instance : FnT Try.prog 33 := ⟨⟨_, _, Try.func33, rfl, by simp [Try.f33]⟩⟩
instance : FnT Try.prog 34 := ⟨⟨_, _, Try.func34, rfl, by simp [Try.f34]⟩⟩
instance : FnT Try.prog 35 := ⟨⟨_, _, Try.func35, rfl, by simp [Try.f35]⟩⟩
instance : FnT Try.prog 36 := ⟨⟨_, _, Try.func36, rfl, by simp [Try.f36]⟩⟩
instance : FnT Try.prog 37 := ⟨⟨_, _, Try.func37, rfl, by simp [Try.f37]⟩⟩
instance : FnT Try.prog 38 := ⟨⟨_, _, Try.func38, rfl, by simp [Try.f38]⟩⟩
instance : FnT Try.prog 39 := ⟨⟨_, _, Try.func39, rfl, by simp [Try.f39]⟩⟩
instance : FnT Try.prog 40 := ⟨⟨_, _, Try.func40, rfl, by simp [Try.f40]⟩⟩
instance : FnT Try.prog 41 := ⟨⟨_, _, Try.func41, rfl, by simp [Try.f41]⟩⟩
instance : FnT Try.prog 42 := ⟨⟨_, _, Try.func42, rfl, by simp [Try.f42]⟩⟩
instance : FnT Try.prog 43 := ⟨⟨_, _, Try.func43, rfl, by simp [Try.f43]⟩⟩
instance : FnT Try.prog 44 := ⟨⟨_, _, Try.func44, rfl, by simp [Try.f44]⟩⟩
instance : FnT Try.prog 45 := ⟨⟨_, _, Try.func45, rfl, by simp [Try.f45]⟩⟩
instance : FnT Try.prog 46 := ⟨⟨_, _, Try.func46, rfl, by simp [Try.f46]⟩⟩
instance : FnT Try.prog 47 := ⟨⟨_, _, Try.func47, rfl, by simp [Try.f47]⟩⟩
instance : FnT Try.prog 48 := ⟨⟨_, _, Try.func48, rfl, by simp [Try.f48]⟩⟩
instance : FnT Try.prog 49 := ⟨⟨_, _, Try.func49, rfl, by simp [Try.f49]⟩⟩
instance : FnT Try.prog 50 := ⟨⟨_, _, Try.func50, rfl, by simp [Try.f50]⟩⟩
instance : FnT Try.prog 51 := ⟨⟨_, _, Try.func51, rfl, by simp [Try.f51]⟩⟩
instance : FnT Try.prog 52 := ⟨⟨_, _, Try.func52, rfl, by simp [Try.f52]⟩⟩
instance : FnT Try.prog 53 := ⟨⟨_, _, Try.func53, rfl, by simp [Try.f53]⟩⟩
instance : FnT Try.prog 54 := ⟨⟨_, _, Try.func54, rfl, by simp [Try.f54]⟩⟩
instance : FnT Try.prog 55 := ⟨⟨_, _, Try.func55, rfl, by simp [Try.f55]⟩⟩
instance : FnT Try.prog 56 := ⟨⟨_, _, Try.func56, rfl, by simp [Try.f56]⟩⟩
instance : FnT Try.prog 57 := ⟨⟨_, _, Try.func57, rfl, by simp [Try.f57]⟩⟩
instance : FnT Try.prog 58 := ⟨⟨_, _, Try.func58, rfl, by simp [Try.f58]⟩⟩
instance : FnT Try.prog 59 := ⟨⟨_, _, Try.func59, rfl, by simp [Try.f59]⟩⟩
instance : FnT Try.prog 60 := ⟨⟨_, _, Try.func60, rfl, by simp [Try.f60]⟩⟩
instance : FnT Try.prog 61 := ⟨⟨_, _, Try.func61, rfl, by simp [Try.f61]⟩⟩
instance : FnT Try.prog 62 := ⟨⟨_, _, Try.func62, rfl, by simp [Try.f62]⟩⟩
instance : FnT Try.prog 63 := ⟨⟨_, _, Try.func63, rfl, by simp [Try.f63]⟩⟩
instance : FnT Try.prog 64 := ⟨⟨_, _, Try.func64, rfl, by simp [Try.f64]⟩⟩
instance : FnT Try.prog 65 := ⟨⟨_, _, Try.func65, rfl, by simp [Try.f65]⟩⟩
instance : FnT Try.prog 66 := ⟨⟨_, _, Try.func66, rfl, by simp [Try.f66]⟩⟩
instance : FnT Try.prog 67 := ⟨⟨_, _, Try.func67, rfl, by simp [Try.f67]⟩⟩
instance : FnT Try.prog 68 := ⟨⟨_, _, Try.func68, rfl, by simp [Try.f68]⟩⟩
instance : FnT Try.prog 69 := ⟨⟨_, _, Try.func69, rfl, by simp [Try.f69]⟩⟩
instance : FnT Try.prog 70 := ⟨⟨_, _, Try.func70, rfl, by simp [Try.f70]⟩⟩
instance : FnT Try.prog 71 := ⟨⟨_, _, Try.func71, rfl, by simp [Try.f71]⟩⟩
instance : FnT Try.prog 72 := ⟨⟨_, _, Try.func72, rfl, by simp [Try.f72]⟩⟩
instance : FnT Try.prog 73 := ⟨⟨_, _, Try.func73, rfl, by simp [Try.f73]⟩⟩
instance : FnT Try.prog 74 := ⟨⟨_, _, Try.func74, rfl, by simp [Try.f74]⟩⟩
instance : FnT Try.prog 75 := ⟨⟨_, _, Try.func75, rfl, by simp [Try.f75]⟩⟩
instance : FnT Try.prog 76 := ⟨⟨_, _, Try.func76, rfl, by simp [Try.f76]⟩⟩
instance : FnT Try.prog 77 := ⟨⟨_, _, Try.func77, rfl, by simp [Try.f77]⟩⟩
instance : FnT Try.prog 78 := ⟨⟨_, _, Try.func78, rfl, by simp [Try.f78]⟩⟩
instance : FnT Try.prog 79 := ⟨⟨_, _, Try.func79, rfl, by simp [Try.f79]⟩⟩
instance : FnT Try.prog 80 := ⟨⟨_, _, Try.func80, rfl, by simp [Try.f80]⟩⟩
instance : FnT Try.prog 81 := ⟨⟨_, _, Try.func81, rfl, by simp [Try.f81]⟩⟩
instance : FnT Try.prog 82 := ⟨⟨_, _, Try.func82, rfl, by simp [Try.f82]⟩⟩
instance : FnT Try.prog 83 := ⟨⟨_, _, Try.func83, rfl, by simp [Try.f83]⟩⟩
instance : FnT Try.prog 84 := ⟨⟨_, _, Try.func84, rfl, by simp [Try.f84]⟩⟩
instance : FnT Try.prog 85 := ⟨⟨_, _, Try.func85, rfl, by simp [Try.f85]⟩⟩
instance : FnT Try.prog 86 := ⟨⟨_, _, Try.func86, rfl, by simp [Try.f86]⟩⟩
instance : FnT Try.prog 87 := ⟨⟨_, _, Try.func87, rfl, by simp [Try.f87]⟩⟩
instance : FnT Try.prog 88 := ⟨⟨_, _, Try.func88, rfl, by simp [Try.f88]⟩⟩
instance : FnT Try.prog 89 := ⟨⟨_, _, Try.func89, rfl, by simp [Try.f89]⟩⟩
instance : FnT Try.prog 90 := ⟨⟨_, _, Try.func90, rfl, by simp [Try.f90]⟩⟩
instance : FnT Try.prog 91 := ⟨⟨_, _, Try.func91, rfl, by simp [Try.f91]⟩⟩
instance : FnT Try.prog 92 := ⟨⟨_, _, Try.func92, rfl, by simp [Try.f92]⟩⟩
instance : FnT Try.prog 93 := ⟨⟨_, _, Try.func93, rfl, by simp [Try.f93]⟩⟩
instance : FnT Try.prog 94 := ⟨⟨_, _, Try.func94, rfl, by simp [Try.f94]⟩⟩
instance : FnT Try.prog 95 := ⟨⟨_, _, Try.func95, rfl, by simp [Try.f95]⟩⟩
instance : FnT Try.prog 96 := ⟨⟨_, _, Try.func96, rfl, by simp [Try.f96]⟩⟩
instance : FnT Try.prog 97 := ⟨⟨_, _, Try.func97, rfl, by simp [Try.f97]⟩⟩
instance : FnT Try.prog 98 := ⟨⟨_, _, Try.func98, rfl, by simp [Try.f98]⟩⟩
instance : FnT Try.prog 99 := ⟨⟨_, _, Try.func99, rfl, by simp [Try.f99]⟩⟩
instance : FnT Try.prog 100 := ⟨⟨_, _, Try.func100, rfl, by simp [Try.f100]⟩⟩
instance : FnT Try.prog 101 := ⟨⟨_, _, Try.func101, rfl, by simp [Try.f101]⟩⟩
instance : FnT Try.prog 102 := ⟨⟨_, _, Try.func102, rfl, by simp [Try.f102]⟩⟩
instance : FnT Try.prog 103 := ⟨⟨_, _, Try.func103, rfl, by simp [Try.f103]⟩⟩
instance : FnT Try.prog 104 := ⟨⟨_, _, Try.func104, rfl, by simp [Try.f104]⟩⟩
instance : FnT Try.prog 105 := ⟨⟨_, _, Try.func105, rfl, by simp [Try.f105]⟩⟩
instance : FnT Try.prog 106 := ⟨⟨_, _, Try.func106, rfl, by simp [Try.f106]⟩⟩
instance : FnT Try.prog 107 := ⟨⟨_, _, Try.func107, rfl, by simp [Try.f107]⟩⟩
instance : FnT Try.prog 108 := ⟨⟨_, _, Try.func108, rfl, by simp [Try.f108]⟩⟩
instance : FnT Try.prog 109 := ⟨⟨_, _, Try.func109, rfl, by simp [Try.f109]⟩⟩
instance : FnT Try.prog 110 := ⟨⟨_, _, Try.func110, rfl, by simp [Try.f110]⟩⟩
instance : FnT Try.prog 111 := ⟨⟨_, _, Try.func111, rfl, by simp [Try.f111]⟩⟩
instance : FnT Try.prog 112 := ⟨⟨_, _, Try.func112, rfl, by simp [Try.f112]⟩⟩
instance : FnT Try.prog 113 := ⟨⟨_, _, Try.func113, rfl, by simp [Try.f113]⟩⟩
instance : FnT Try.prog 114 := ⟨⟨_, _, Try.func114, rfl, by simp [Try.f114]⟩⟩
instance : FnT Try.prog 115 := ⟨⟨_, _, Try.func115, rfl, by simp [Try.f115]⟩⟩
instance : FnT Try.prog 116 := ⟨⟨_, _, Try.func116, rfl, by simp [Try.f116]⟩⟩
instance : FnT Try.prog 117 := ⟨⟨_, _, Try.func117, rfl, by simp [Try.f117]⟩⟩
instance : FnT Try.prog 118 := ⟨⟨_, _, Try.func118, rfl, by simp [Try.f118]⟩⟩
instance : FnT Try.prog 119 := ⟨⟨_, _, Try.func119, rfl, by simp [Try.f119]⟩⟩
instance : FnT Try.prog 120 := ⟨⟨_, _, Try.func120, rfl, by simp [Try.f120]⟩⟩
instance : FnT Try.prog 121 := ⟨⟨_, _, Try.func121, rfl, by simp [Try.f121]⟩⟩
instance : FnT Try.prog 122 := ⟨⟨_, _, Try.func122, rfl, by simp [Try.f122]⟩⟩
instance : FnT Try.prog 123 := ⟨⟨_, _, Try.func123, rfl, by simp [Try.f123]⟩⟩
instance : FnT Try.prog 124 := ⟨⟨_, _, Try.func124, rfl, by simp [Try.f124]⟩⟩
instance : FnT Try.prog 125 := ⟨⟨_, _, Try.func125, rfl, by simp [Try.f125]⟩⟩
instance : FnT Try.prog 126 := ⟨⟨_, _, Try.func126, rfl, by simp [Try.f126]⟩⟩
instance : FnT Try.prog 127 := ⟨⟨_, _, Try.func127, rfl, by simp [Try.f127]⟩⟩
instance : FnT Try.prog 128 := ⟨⟨_, _, Try.func128, rfl, by simp [Try.f128]⟩⟩
instance : FnT Try.prog 129 := ⟨⟨_, _, Try.func129, rfl, by simp [Try.f129]⟩⟩
instance : FnT Try.prog 130 := ⟨⟨_, _, Try.func130, rfl, by simp [Try.f130]⟩⟩
instance : FnT Try.prog 131 := ⟨⟨_, _, Try.func131, rfl, by simp [Try.f131]⟩⟩
instance : FnT Try.prog 132 := ⟨⟨_, _, Try.func132, rfl, by simp [Try.f132]⟩⟩
instance : FnT Try.prog 133 := ⟨⟨_, _, Try.func133, rfl, by simp [Try.f133]⟩⟩
instance : FnT Try.prog 134 := ⟨⟨_, _, Try.func134, rfl, by simp [Try.f134]⟩⟩
instance : FnT Try.prog 135 := ⟨⟨_, _, Try.func135, rfl, by simp [Try.f135]⟩⟩
instance : FnT Try.prog 136 := ⟨⟨_, _, Try.func136, rfl, by simp [Try.f136]⟩⟩
instance : FnT Try.prog 137 := ⟨⟨_, _, Try.func137, rfl, by simp [Try.f137]⟩⟩
instance : FnT Try.prog 138 := ⟨⟨_, _, Try.func138, rfl, by simp [Try.f138]⟩⟩
instance : FnT Try.prog 139 := ⟨⟨_, _, Try.func139, rfl, by simp [Try.f139]⟩⟩
instance : FnT Try.prog 140 := ⟨⟨_, _, Try.func140, rfl, by simp [Try.f140]⟩⟩
instance : FnT Try.prog 141 := ⟨⟨_, _, Try.func141, rfl, by simp [Try.f141]⟩⟩
instance : FnT Try.prog 142 := ⟨⟨_, _, Try.func142, rfl, by simp [Try.f142]⟩⟩
instance : FnT Try.prog 143 := ⟨⟨_, _, Try.func143, rfl, by simp [Try.f143]⟩⟩
instance : FnT Try.prog 144 := ⟨⟨_, _, Try.func144, rfl, by simp [Try.f144]⟩⟩
instance : FnT Try.prog 145 := ⟨⟨_, _, Try.func145, rfl, by simp [Try.f145]⟩⟩
instance : FnT Try.prog 146 := ⟨⟨_, _, Try.func146, rfl, by simp [Try.f146]⟩⟩
instance : FnT Try.prog 147 := ⟨⟨_, _, Try.func147, rfl, by simp [Try.f147]⟩⟩
instance : FnT Try.prog 148 := ⟨⟨_, _, Try.func148, rfl, by simp [Try.f148]⟩⟩
instance : FnT Try.prog 149 := ⟨⟨_, _, Try.func149, rfl, by simp [Try.f149]⟩⟩
instance : FnT Try.prog 150 := ⟨⟨_, _, Try.func150, rfl, by simp [Try.f150]⟩⟩
instance : FnT Try.prog 151 := ⟨⟨_, _, Try.func151, rfl, by simp [Try.f151]⟩⟩
instance : FnT Try.prog 152 := ⟨⟨_, _, Try.func152, rfl, by simp [Try.f152]⟩⟩
instance : FnT Try.prog 153 := ⟨⟨_, _, Try.func153, rfl, by simp [Try.f153]⟩⟩
instance : FnT Try.prog 154 := ⟨⟨_, _, Try.func154, rfl, by simp [Try.f154]⟩⟩
instance : FnT Try.prog 155 := ⟨⟨_, _, Try.func155, rfl, by simp [Try.f155]⟩⟩
instance : FnT Try.prog 156 := ⟨⟨_, _, Try.func156, rfl, by simp [Try.f156]⟩⟩
instance : FnT Try.prog 157 := ⟨⟨_, _, Try.func157, rfl, by simp [Try.f157]⟩⟩
instance : FnT Try.prog 158 := ⟨⟨_, _, Try.func158, rfl, by simp [Try.f158]⟩⟩
instance : FnT Try.prog 159 := ⟨⟨_, _, Try.func159, rfl, by simp [Try.f159]⟩⟩
instance : FnT Try.prog 160 := ⟨⟨_, _, Try.func160, rfl, by simp [Try.f160]⟩⟩
instance : FnT Try.prog 161 := ⟨⟨_, _, Try.func161, rfl, by simp [Try.f161]⟩⟩
instance : FnT Try.prog 162 := ⟨⟨_, _, Try.func162, rfl, by simp [Try.f162]⟩⟩
instance : FnT Try.prog 163 := ⟨⟨_, _, Try.func163, rfl, by simp [Try.f163]⟩⟩
instance : FnT Try.prog 164 := ⟨⟨_, _, Try.func164, rfl, by simp [Try.f164]⟩⟩
instance : FnT Try.prog 165 := ⟨⟨_, _, Try.func165, rfl, by simp [Try.f165]⟩⟩
instance : FnT Try.prog 166 := ⟨⟨_, _, Try.func166, rfl, by simp [Try.f166]⟩⟩
instance : FnT Try.prog 167 := ⟨⟨_, _, Try.func167, rfl, by simp [Try.f167]⟩⟩
instance : FnT Try.prog 168 := ⟨⟨_, _, Try.func168, rfl, by simp [Try.f168]⟩⟩
instance : FnT Try.prog 169 := ⟨⟨_, _, Try.func169, rfl, by simp [Try.f169]⟩⟩
instance : FnT Try.prog 170 := ⟨⟨_, _, Try.func170, rfl, by simp [Try.f170]⟩⟩
instance : FnT Try.prog 171 := ⟨⟨_, _, Try.func171, rfl, by simp [Try.f171]⟩⟩
instance : FnT Try.prog 172 := ⟨⟨_, _, Try.func172, rfl, by simp [Try.f172]⟩⟩
instance : FnT Try.prog 173 := ⟨⟨_, _, Try.func173, rfl, by simp [Try.f173]⟩⟩
instance : FnT Try.prog 174 := ⟨⟨_, _, Try.func174, rfl, by simp [Try.f174]⟩⟩
instance : FnT Try.prog 175 := ⟨⟨_, _, Try.func175, rfl, by simp [Try.f175]⟩⟩
instance : FnT Try.prog 176 := ⟨⟨_, _, Try.func176, rfl, by simp [Try.f176]⟩⟩
instance : FnT Try.prog 177 := ⟨⟨_, _, Try.func177, rfl, by simp [Try.f177]⟩⟩
instance : FnT Try.prog 178 := ⟨⟨_, _, Try.func178, rfl, by simp [Try.f178]⟩⟩
instance : FnT Try.prog 179 := ⟨⟨_, _, Try.func179, rfl, by simp [Try.f179]⟩⟩
instance : FnT Try.prog 180 := ⟨⟨_, _, Try.func180, rfl, by simp [Try.f180]⟩⟩
instance : FnT Try.prog 181 := ⟨⟨_, _, Try.func181, rfl, by simp [Try.f181]⟩⟩
instance : FnT Try.prog 182 := ⟨⟨_, _, Try.func182, rfl, by simp [Try.f182]⟩⟩
instance : FnT Try.prog 183 := ⟨⟨_, _, Try.func183, rfl, by simp [Try.f183]⟩⟩
instance : FnT Try.prog 184 := ⟨⟨_, _, Try.func184, rfl, by simp [Try.f184]⟩⟩
instance : FnT Try.prog 185 := ⟨⟨_, _, Try.func185, rfl, by simp [Try.f185]⟩⟩
instance : FnT Try.prog 186 := ⟨⟨_, _, Try.func186, rfl, by simp [Try.f186]⟩⟩
instance : FnT Try.prog 187 := ⟨⟨_, _, Try.func187, rfl, by simp [Try.f187]⟩⟩
instance : FnT Try.prog 188 := ⟨⟨_, _, Try.func188, rfl, by simp [Try.f188]⟩⟩
instance : FnT Try.prog 189 := ⟨⟨_, _, Try.func189, rfl, by simp [Try.f189]⟩⟩
instance : FnT Try.prog 190 := ⟨⟨_, _, Try.func190, rfl, by simp [Try.f190]⟩⟩
instance : FnT Try.prog 191 := ⟨⟨_, _, Try.func191, rfl, by simp [Try.f191]⟩⟩
instance : FnT Try.prog 192 := ⟨⟨_, _, Try.func192, rfl, by simp [Try.f192]⟩⟩
instance : FnT Try.prog 193 := ⟨⟨_, _, Try.func193, rfl, by simp [Try.f193]⟩⟩
instance : FnT Try.prog 194 := ⟨⟨_, _, Try.func194, rfl, by simp [Try.f194]⟩⟩
instance : FnT Try.prog 195 := ⟨⟨_, _, Try.func195, rfl, by simp [Try.f195]⟩⟩
instance : FnT Try.prog 196 := ⟨⟨_, _, Try.func196, rfl, by simp [Try.f196]⟩⟩
instance : FnT Try.prog 197 := ⟨⟨_, _, Try.func197, rfl, by simp [Try.f197]⟩⟩
instance : FnT Try.prog 198 := ⟨⟨_, _, Try.func198, rfl, by simp [Try.f198]⟩⟩
instance : FnT Try.prog 199 := ⟨⟨_, _, Try.func199, rfl, by simp [Try.f199]⟩⟩
instance : FnT Try.prog 200 := ⟨⟨_, _, Try.func200, rfl, by simp [Try.f200]⟩⟩
instance : FnT Try.prog 201 := ⟨⟨_, _, Try.func201, rfl, by simp [Try.f201]⟩⟩
instance : FnT Try.prog 202 := ⟨⟨_, _, Try.func202, rfl, by simp [Try.f202]⟩⟩
instance : FnT Try.prog 203 := ⟨⟨_, _, Try.func203, rfl, by simp [Try.f203]⟩⟩
instance : FnT Try.prog 204 := ⟨⟨_, _, Try.func204, rfl, by simp [Try.f204]⟩⟩
instance : FnT Try.prog 205 := ⟨⟨_, _, Try.func205, rfl, by simp [Try.f205]⟩⟩
instance : FnT Try.prog 206 := ⟨⟨_, _, Try.func206, rfl, by simp [Try.f206]⟩⟩
instance : FnT Try.prog 207 := ⟨⟨_, _, Try.func207, rfl, by simp [Try.f207]⟩⟩
instance : FnT Try.prog 208 := ⟨⟨_, _, Try.func208, rfl, by simp [Try.f208]⟩⟩
instance : FnT Try.prog 209 := ⟨⟨_, _, Try.func209, rfl, by simp [Try.f209]⟩⟩
instance : FnT Try.prog 210 := ⟨⟨_, _, Try.func210, rfl, by simp [Try.f210]⟩⟩
instance : FnT Try.prog 211 := ⟨⟨_, _, Try.func211, rfl, by simp [Try.f211]⟩⟩
instance : FnT Try.prog 212 := ⟨⟨_, _, Try.func212, rfl, by simp [Try.f212]⟩⟩
instance : FnT Try.prog 213 := ⟨⟨_, _, Try.func213, rfl, by simp [Try.f213]⟩⟩
instance : FnT Try.prog 214 := ⟨⟨_, _, Try.func214, rfl, by simp [Try.f214]⟩⟩
instance : FnT Try.prog 215 := ⟨⟨_, _, Try.func215, rfl, by simp [Try.f215]⟩⟩
instance : FnT Try.prog 216 := ⟨⟨_, _, Try.func216, rfl, by simp [Try.f216]⟩⟩
instance : FnT Try.prog 217 := ⟨⟨_, _, Try.func217, rfl, by simp [Try.f217]⟩⟩
instance : FnT Try.prog 218 := ⟨⟨_, _, Try.func218, rfl, by simp [Try.f218]⟩⟩
instance : FnT Try.prog 219 := ⟨⟨_, _, Try.func219, rfl, by simp [Try.f219]⟩⟩
instance : FnT Try.prog 220 := ⟨⟨_, _, Try.func220, rfl, by simp [Try.f220]⟩⟩
instance : FnT Try.prog 221 := ⟨⟨_, _, Try.func221, rfl, by simp [Try.f221]⟩⟩
instance : FnT Try.prog 222 := ⟨⟨_, _, Try.func222, rfl, by simp [Try.f222]⟩⟩
instance : FnT Try.prog 223 := ⟨⟨_, _, Try.func223, rfl, by simp [Try.f223]⟩⟩
instance : FnT Try.prog 224 := ⟨⟨_, _, Try.func224, rfl, by simp [Try.f224]⟩⟩
instance : FnT Try.prog 225 := ⟨⟨_, _, Try.func225, rfl, by simp [Try.f225]⟩⟩
instance : FnT Try.prog 226 := ⟨⟨_, _, Try.func226, rfl, by simp [Try.f226]⟩⟩
instance : FnT Try.prog 227 := ⟨⟨_, _, Try.func227, rfl, by simp [Try.f227]⟩⟩
instance : FnT Try.prog 228 := ⟨⟨_, _, Try.func228, rfl, by simp [Try.f228]⟩⟩
end Go.Proofs.Ytjljbfcdpdckeaa

/-
  Walks: the reference's small functions on lists (In, Own, Unit, Same, Zero, ..).
  Conditions: stated at each theorem: what the arguments read as, and that lists are short.
-/
namespace Go.Proofs.Ytjljbfcdpdckeaa
open Go Go.Pc
set_option maxHeartbeats 400000 in
theorem l01Own_ok {w : World} {v : Value} {xs : List Int} {lo hi : Nat} [hx : Ints lo hi w v xs] (hl : xs.length ≤ 2000000) :
    Calls Try.prog 128 #[v] w (Ret fun v' w' => Ext w w' ∧ Fr w.heap.size w' v' xs) := by
  refine enter (args := [v]) (l := [.tmp 2]) Try.func128 rfl rfl Try.ntmps128 (by simp) ?_
  refine go ?_
  refine st_slice0 (by first | exact True.intro | exact ⟨_, rfl, by ((try simp only [ev_tmp, ev_const, ev_func, get_put, get_args, get_putL, get_putL_nil, Nat.reduceEqDiff, reduceIte, List.getD_cons_zero, List.getD_cons_succ, List.getD_nil, Bool.not_true, Bool.not_false]); first | done | with_reducible rfl)⟩) fun w1 v1 he1 hs1 ho1 => ?_
  refine go ?_
  have hN := ho1.toN
  have hsl : Sl lo hi w1 v _ := Sl.ext (h := hx.sl)
  refine st_append (hv := hN) (hy := hsl) (by ((try simp only [ev_tmp, ev_const, ev_func, get_put, get_args, get_putL, get_putL_nil, Nat.reduceEqDiff, reduceIte, List.getD_cons_zero, List.getD_cons_succ, List.getD_nil]); first | done | with_reducible rfl)) (by ((try simp only [ev_tmp, ev_const, ev_func, get_put, get_args, get_putL, get_putL_nil, Nat.reduceEqDiff, reduceIte, List.getD_cons_zero, List.getD_cons_succ, List.getD_nil]); first | done | with_reducible rfl)) rfl (oneCells xs) (by simp; omega) (by simp [maxLen]; omega) (by omega) (by first | exact True.intro | exact ⟨_, rfl, by ((try simp only [ev_tmp, ev_const, ev_func, get_put, get_args, get_putL, get_putL_nil, Nat.reduceEqDiff, reduceIte, List.getD_cons_zero, List.getD_cons_succ, List.getD_nil, Bool.not_true, Bool.not_false]); first | done | with_reducible rfl)⟩) fun v2 w2 ho2 hg2 ha2 => ?_
  refine go ?_
  have hN2 : OwnN 2 w.heap.size w2 v2 (xs.map (Value.int .i64)) := by simpa using ho2
  refine ret1 ⟨?_, hN2.toFr⟩
  obtain ⟨cap, cur, hv1, _⟩ := ho1.ex
  exact ⟨he1.below.grown hg2 (by omega) (fun k hk => by rw [hv1] at hk; simp [Value.ownBlock] at hk; omega)⟩
set_option maxHeartbeats 400000 in
theorem l07Unit_ok {w : World} {n i : Nat} {kn ki : Int} (hkn : kn = n) (hki : ki = i) (hn : n ≤ 2000000) (hi : i < n) :
    Calls Try.prog 161 #[.int .i64 kn, .int .i64 ki] w (Ret fun v' w' => Ext w w' ∧ Fr w.heap.size w' v' ((zeros n).set i 1)) := by
  subst hkn hki
  refine enter (args := [.int .i64 n, .int .i64 i]) (l := [.tmp 4]) Try.func161 rfl rfl Try.ntmps161 (by simp) ?_
  refine go ?_
  refine st_make_int (by ((try simp only [ev_tmp, ev_const, ev_func, get_put, get_args, get_putL, get_putL_nil, Nat.reduceEqDiff, reduceIte, List.getD_cons_zero, List.getD_cons_succ, List.getD_nil]); first | done | with_reducible rfl)) (by ((try simp only [ev_tmp, ev_const, ev_func, get_put, get_args, get_putL, get_putL_nil, Nat.reduceEqDiff, reduceIte, List.getD_cons_zero, List.getD_cons_succ, List.getD_nil]); first | done | with_reducible rfl)) (by omega) (by omega) (by first | exact True.intro | exact ⟨_, rfl, by ((try simp only [ev_tmp, ev_const, ev_func, get_put, get_args, get_putL, get_putL_nil, Nat.reduceEqDiff, reduceIte, List.getD_cons_zero, List.getD_cons_succ, List.getD_nil, Bool.not_true, Bool.not_false]); first | done | with_reducible rfl)⟩) fun w1 v1 he1 hs1 ho1 => ?_
  have hlen : (List.replicate n (0 : Int)).length = n := by simp
  refine go ?_
  refine st_store_int (by ((try simp only [ev_tmp, ev_const, ev_func, get_put, get_args, get_putL, get_putL_nil, Nat.reduceEqDiff, reduceIte, List.getD_cons_zero, List.getD_cons_succ, List.getD_nil]); first | done | with_reducible rfl)) (by ((try simp only [ev_tmp, ev_const, ev_func, get_put, get_args, get_putL, get_putL_nil, Nat.reduceEqDiff, reduceIte, List.getD_cons_zero, List.getD_cons_succ, List.getD_nil]); first | done | with_reducible rfl)) ?_ (by first | exact True.intro | exact ⟨_, rfl, by ((try simp only [ev_tmp, ev_const, ev_func, get_put, get_args, get_putL, get_putL_nil, Nat.reduceEqDiff, reduceIte, List.getD_cons_zero, List.getD_cons_succ, List.getD_nil, Bool.not_true, Bool.not_false]); first | done | with_reducible rfl)⟩) fun w2 hc2 hs2 ho2 => ?_
  · omega
  refine go ?_
  exact ret1 ⟨hc2.ext he1 (Nat.le_refl _), ho2.toFr (Nat.le_refl _)⟩
theorem take_succ_eq {xs ys : List Int} {k : Nat} (h : xs.take k = ys.take k) (hk : k < xs.length) (hl : xs.length = ys.length) (e : xs.getD k 0 = ys.getD k 0) : xs.take (k + 1) = ys.take (k + 1) := by
  rw [List.take_succ_eq_append_getElem hk, List.take_succ_eq_append_getElem (by omega), h]
  simp [hk, show k < ys.length by omega] at e
  rw [e]
set_option maxHeartbeats 400000 in
theorem l01Same_ok {w : World} {va vb : Value} {xs ys : List Int} {lo hi lo' hi' : Nat} [hx : Ints lo hi w va xs] [hy : Ints lo' hi' w vb ys] (hm : xs.length ≤ 2000000) :
    Calls Try.prog 99 #[va, vb] w (Ret fun v w' => ∃ b, v = .bool b ∧ (b = true ↔ xs = ys) ∧ Ext w w') := by
  refine enter (args := [va, vb]) (l := [.tmp 4]) Try.func99 rfl rfl Try.ntmps99 (by simp) ?_
  refine go ?_
  refine c_if (fun h1 => ?_) (fun h1 => ?_)
  · refine go ?_
    refine ret1 ⟨_, rfl, ?_, Ext.refl _⟩
    simp only [Bool.false_eq_true, false_iff]
    rintro rfl
    simp at h1
  · refine go ?_
    refine r_for xs.length (fun k ρ w' => Has ρ [(0, va), (1, vb), (5, .int .i64 k)] ∧ Ext w w' ∧ xs.take k = ys.take k) ?_ ?_
    · refine ⟨?_, Ext.refl _, rfl⟩
      simp only [Has, ev_tmp, ev_const, ev_func, get_put, get_args, get_putL, get_putL_nil, Nat.reduceEqDiff, reduceIte, List.getD_cons_zero, List.getD_cons_succ, List.getD_nil]; simp
    · rintro k ρ w1 hk ⟨hH, he, ht⟩
      refine rwp_has hH fun ρ0 => ?_
      refine go ?_
      refine c_if (fun h2 => ?_) (fun h2 => ?_)
      · refine go ?_
        refine d_region fun w2 he2 _ => ?_
        refine dgo ?_
        refine d_end (h := ?_)
        refine go ?_
        refine c_if (fun h3 => ?_) (fun h3 => ?_)
        · refine go ?_
          refine ret1 ⟨_, rfl, ?_, he.trans he2⟩
          simp only [Bool.false_eq_true, false_iff]
          rintro rfl
          exact h3 rfl
        · refine go ?_
          refine forQ_normal (by omega) ⟨?_, he.trans he2, take_succ_eq ht (by omega) (by omega) ?_⟩
          · simp only [Has, ev_tmp, ev_const, ev_func, get_put, get_args, get_putL, get_putL_nil, Nat.reduceEqDiff, reduceIte, List.getD_cons_zero, List.getD_cons_succ, List.getD_nil]; simp
          · exact Decidable.not_not.1 h3
      · refine go ?_
        refine ret1 ⟨_, rfl, ?_, he⟩
        have : k = xs.length := by omega
        subst this
        simp only [true_iff]
        rw [List.take_of_length_le (Nat.le_refl _), List.take_of_length_le (by omega)] at ht
        exact ht
set_option maxHeartbeats 400000 in
theorem eqInt64S_ok {w : World} {va vb : Value} {xs ys : List Int} {lo hi lo' hi' : Nat} [hx : Ints lo hi w va xs] [hy : Ints lo' hi' w vb ys] (hm : xs.length ≤ 2000000) :
    Calls Try.prog 17 #[va, vb] w (Ret fun v w' => ∃ b, v = .bool b ∧ (b = true ↔ xs = ys) ∧ Ext w w') := by
  refine enter (args := [va, vb]) (l := [.tmp 4]) Try.func17 rfl rfl Try.ntmps17 (by simp) ?_
  refine go ?_
  refine c_if (fun h1 => ?_) (fun h1 => ?_)
  · refine go ?_
    refine ret1 ⟨_, rfl, ?_, Ext.refl _⟩
    simp only [Bool.false_eq_true, false_iff]
    rintro rfl
    simp at h1
  · refine go ?_
    refine r_for xs.length (fun k ρ w' => Has ρ [(0, va), (1, vb), (5, .int .i64 k)] ∧ Ext w w' ∧ xs.take k = ys.take k) ?_ ?_
    · refine ⟨?_, Ext.refl _, rfl⟩
      simp only [Has, ev_tmp, ev_const, ev_func, get_put, get_args, get_putL, get_putL_nil, Nat.reduceEqDiff, reduceIte, List.getD_cons_zero, List.getD_cons_succ, List.getD_nil]; simp
    · rintro k ρ w1 hk ⟨hH, he, ht⟩
      refine rwp_has hH fun ρ0 => ?_
      refine go ?_
      refine c_if (fun h2 => ?_) (fun h2 => ?_)
      · refine go ?_
        refine d_region fun w2 he2 _ => ?_
        refine dgo ?_
        refine d_end (h := ?_)
        refine go ?_
        refine c_if (fun h3 => ?_) (fun h3 => ?_)
        · refine go ?_
          refine ret1 ⟨_, rfl, ?_, he.trans he2⟩
          simp only [Bool.false_eq_true, false_iff]
          rintro rfl
          exact h3 rfl
        · refine go ?_
          refine forQ_normal (by omega) ⟨?_, he.trans he2, take_succ_eq ht (by omega) (by omega) ?_⟩
          · simp only [Has, ev_tmp, ev_const, ev_func, get_put, get_args, get_putL, get_putL_nil, Nat.reduceEqDiff, reduceIte, List.getD_cons_zero, List.getD_cons_succ, List.getD_nil]; simp
          · exact Decidable.not_not.1 h3
      · refine go ?_
        refine ret1 ⟨_, rfl, ?_, he⟩
        have : k = xs.length := by omega
        subst this
        simp only [true_iff]
        rw [List.take_of_length_le (Nat.le_refl _), List.take_of_length_le (by omega)] at ht
        exact ht
end Go.Proofs.Ytjljbfcdpdckeaa

/-
  Walks: the reference's checks of a presentation (l01Prime, l07Product, l07Exponents, IsPresentation).
  Conditions: stated at each theorem.
-/
namespace Go.Proofs.Ytjljbfcdpdckeaa
open Go Go.Pc
theorem l01In_ok {n l h : Int} {w : World} : Calls Try.prog 78 #[.int .i64 n, .int .i64 l, .int .i64 h] w (Ret fun v w' => ∃ b, v = .bool b ∧ (b = true ↔ l ≤ n ∧ n ≤ h) ∧ Ext w w') := by
  refine enter (args := [.int .i64 n, .int .i64 l, .int .i64 h]) (l := [.tmp 6]) Try.func78 rfl rfl Try.ntmps78 (by simp) ?_
  refine go ?_
  refine spd (fun h1 => ?_) (fun h1 => ?_)
  · refine go ?_
    refine ret1 ⟨_, rfl, ?_, Ext.refl _⟩
    simp [h1]
  · refine go ?_
    refine ret1 ⟨_, rfl, ?_, Ext.refl _⟩
    simp [h1]
theorem l01Prime_ok {n : Int} {w : World} : Calls Try.prog 137 #[.int .i64 n] w (Ret fun v w' => ∃ b, v = .bool b ∧ (b = true ↔ (n = 2 ∨ n = 3 ∨ n = 5 ∨ n = 7)) ∧ Ext w w') := by
  refine enter (args := [.int .i64 n]) (l := [.tmp 2]) Try.func137 rfl rfl Try.ntmps137 (by simp) ?_
  refine go ?_
  refine spd (fun h1 => ?_) (fun h1 => ?_)
  · refine go ?_
    refine ret1 ⟨_, rfl, ?_, Ext.refl _⟩
    simp [h1]
  · refine go ?_
    refine spd (fun h2 => ?_) (fun h2 => ?_)
    · refine go ?_
      refine ret1 ⟨_, rfl, ?_, Ext.refl _⟩
      simp [h2]
    · refine go ?_
      refine spd (fun h3 => ?_) (fun h3 => ?_)
      · refine go ?_
        refine ret1 ⟨_, rfl, ?_, Ext.refl _⟩
        simp [h3]
      · refine go ?_
        refine ret1 ⟨_, rfl, ?_, Ext.refl _⟩
        simp [h1, h2, h3]
def capMul (a o : Int) : Int := if a ≤ 729 then a * o else a
theorem capMul_foldl : ∀ (l : List Int) (a : Int), (∀ o ∈ l, 1 ≤ o) → 1 ≤ a → (l.foldl capMul a ≤ 729 ↔ l.foldl (· * ·) a ≤ 729) ∧ a ≤ l.foldl (· * ·) a ∧ (l.foldl capMul a ≤ 729 → l.foldl capMul a = l.foldl (· * ·) a)
  | [], a, _, _ => by simp
  | o :: l, a, ho, ha => by
    have h1 := ho o (by simp)
    have hao : a ≤ a * o := by
      have := Int.mul_le_mul_of_nonneg_left h1 (show 0 ≤ a by omega)
      rw [Int.mul_one] at this; exact this
    have ih := fun b hb => capMul_foldl l b (fun x hx => ho x (by simp [hx])) hb
    simp only [List.foldl_cons, capMul]
    have i2 := ih (a * o) (by omega)
    by_cases h : a ≤ 729
    · rw [if_pos h]
      exact ⟨i2.1, by omega, i2.2.2⟩
    · rw [if_neg h]
      have i1 := ih a ha
      have hcap : ¬ l.foldl capMul a ≤ 729 := by rw [i1.1]; omega
      exact ⟨⟨fun h => absurd h hcap, fun h => by omega⟩, by omega, fun h => absurd h hcap⟩
theorem capMul_bd : ∀ (l : List Int) (a : Int), (∀ o ∈ l, 1 ≤ o ∧ o ≤ 7) → 1 ≤ a → a ≤ 5103 → 1 ≤ l.foldl capMul a ∧ l.foldl capMul a ≤ 5103
  | [], a, _, h1, h2 => ⟨h1, h2⟩
  | o :: l, a, ho, h1, h2 => by
    have h := ho o (by simp)
    simp only [List.foldl_cons]
    have hc : 1 ≤ capMul a o ∧ capMul a o ≤ 5103 := by
      unfold capMul
      split
      · have e1 := Int.mul_le_mul_of_nonneg_left h.1 (show 0 ≤ a by omega)
        have e2 : a * o ≤ 729 * 7 := Int.mul_le_mul (by omega) h.2 (by omega) (by omega)
        omega
      · omega
    exact capMul_bd l _ (fun x hx => ho x (by simp [hx])) hc.1 hc.2
theorem foldl_take_succ {α β : Type} (f : β → α → β) (b : β) (d : α) (l : List α) (k : Nat) (hk : k < l.length) : (l.take (k + 1)).foldl f b = f ((l.take k).foldl f b) (l.getD k d) := by
  rw [List.take_succ_eq_append_getElem hk, List.foldl_append]; simp [hk]
set_option maxHeartbeats 400000 in
theorem l07Product_ok {w : World} {v : Value} {xs : List Int} {lo hi : Nat} [hx : Ints lo hi w v xs] (ho : ∀ o ∈ xs, 1 ≤ o ∧ o ≤ 7) (hl : xs.length ≤ 2000000) :
    Calls Try.prog 138 #[v] w (Ret fun v' w' => v' = .int .i64 (xs.foldl capMul 1) ∧ Ext w w') := by
  refine enter (args := [v]) (l := [.tmp 2]) Try.func138 rfl rfl Try.ntmps138 (by simp) ?_
  refine go ?_
  refine r_for xs.length (fun k ρ w' => Has ρ [(0, v), (3, .int .i64 ((xs.take k).foldl capMul 1)), (4, .int .i64 k)] ∧ Ext w w') ?_ ?_
  · refine ⟨?_, Ext.refl _⟩
    exact hasP
  · rintro k ρ w1 hk ⟨hH, he⟩
    refine rwp_has hH fun ρ0 => ?_
    refine go ?_
    refine c_if (fun h1 => ?_) (fun h1 => ?_)
    · have hkl : k < xs.length := by omega
      have hb := capMul_bd (xs.take k) 1 (fun o h => ho o (List.mem_of_mem_take h)) (by omega) (by omega)
      have hok := ho (xs.getD k 0) (by simp [hkl])
      have hsucc := foldl_take_succ capMul 1 0 xs k hkl
      refine go ?_
      refine c_if (fun h2 => ?_) (fun h2 => ?_)
      · have e1 := Int.mul_le_mul_of_nonneg_left hok.1 (show 0 ≤ (xs.take k).foldl capMul 1 by omega)
        have e2 : (xs.take k).foldl capMul 1 * xs.getD k 0 ≤ 729 * 7 := Int.mul_le_mul (by omega) hok.2 (by omega) (by omega)
        have hc : capMul ((xs.take k).foldl capMul 1) (xs.getD k 0) = (xs.take k).foldl capMul 1 * xs.getD k 0 := if_pos h2
        rw [hc] at hsucc
        refine go ?_
        refine ra (h := rd_mul (by ((try simp only [ev_tmp, ev_const, ev_func, get_put, get_args, get_putL, get_putL_nil, Nat.reduceEqDiff, reduceIte, List.getD_cons_zero, List.getD_cons_succ, List.getD_nil]); first | done | with_reducible rfl)) (by ((try simp only [ev_tmp, ev_const, ev_func, get_put, get_args, get_putL, get_putL_nil, Nat.reduceEqDiff, reduceIte, List.getD_cons_zero, List.getD_cons_succ, List.getD_nil]); first | done | with_reducible rfl)) ?_) (next := ?_)
        · omega
        refine go ?_
        refine forQ_normal hkl ⟨?_, he⟩
        rw [hsucc]
        exact hasP
      · have hc : capMul ((xs.take k).foldl capMul 1) (xs.getD k 0) = (xs.take k).foldl capMul 1 := if_neg h2
        rw [hc] at hsucc
        refine go ?_
        refine forQ_normal hkl ⟨?_, he⟩
        rw [hsucc]
        exact hasP
    · refine go ?_
      have : k = xs.length := by omega
      subst this
      refine ret1 ⟨?_, he⟩
      rw [List.take_of_length_le (Nat.le_refl _)]
/-- The entries of a vector under a list of orders. -/
def ExpP (os v : List Int) (z : Int) : Prop := v.length = os.length ∧ ∀ i, i < v.length → (0 ≤ v.getD i 0 ∧ v.getD i 0 ≤ os.getD i 0 - 1) ∧ ((i : Int) ≤ z → v.getD i 0 = 0)
set_option maxHeartbeats 1000000 in
theorem l07Exponents_ok {w : World} {vo vv : Value} {os xs : List Int} {z : Int} {lo hi lo1 hi1 : Nat} [ho : Ints lo hi w vo os] [hx : Ints lo1 hi1 w vv xs] (hb : ∀ i, i < os.length → 0 ≤ os.getD i 0 ∧ os.getD i 0 ≤ 2000000) (hl : os.length ≤ 2000000) :
    Calls Try.prog 127 #[vo, vv, .int .i64 z] w (Ret fun v' w' => ∃ b, v' = .bool b ∧ (b = true ↔ ExpP os xs z) ∧ Ext w w') := by
  refine enter (args := [vo, vv, .int .i64 z]) (l := [.tmp 6]) Try.func127 rfl rfl Try.ntmps127 (by simp) ?_
  refine go ?_
  refine c_if (fun h1 => ?_) (fun h1 => ?_)
  · refine go ?_
    refine ret1 ⟨_, rfl, ?_, Ext.refl _⟩
    simp only [Bool.false_eq_true, false_iff]
    rintro ⟨h, _⟩
    exact h1 (by rw [h])
  · refine go ?_
    refine r_for xs.length (fun k ρ w' => Has ρ [(0, vo), (1, vv), (2, .int .i64 z), (7, .int .i64 k)] ∧ Ext w w' ∧ ∀ i, i < k → (0 ≤ xs.getD i 0 ∧ xs.getD i 0 ≤ os.getD i 0 - 1) ∧ ((i : Int) ≤ z → xs.getD i 0 = 0)) ?_ ?_
    · refine ⟨?_, Ext.refl _, fun i hi => by omega⟩
      exact hasP
    · rintro k ρ w1 hk ⟨hH, he, hpre⟩
      refine rwp_has hH fun ρ0 => ?_
      refine go ?_
      refine c_if (fun h2 => ?_) (fun h2 => ?_)
      · have hkl : k < xs.length := by omega
        have hko : k < os.length := by omega
        have hbk := hb k hko
        refine go ?_
        refine d_region fun w2 he2 _ => ?_
        refine dgo ?_
        refine dc l01In_ok (next := fun v3 w3 h3 => ?_)
        obtain ⟨b3, rfl, hb3, he3⟩ := h3
        refine ⟨fun h => h.trans he3, ?_⟩
        have hE := (he.trans he2).trans he3
        have close_no : ∀ (hneg : ¬ ((0 ≤ xs.getD k 0 ∧ xs.getD k 0 ≤ os.getD k 0 - 1) ∧ ((k : Int) ≤ z → xs.getD k 0 = 0))), (false = true ↔ ExpP os xs z) := by
          intro hneg
          simp only [Bool.false_eq_true, false_iff]
          rintro ⟨_, h⟩
          exact hneg (h k hkl)
        refine da (next := ?_)
        refine da (next := ?_)
        refine dsp (fun h5 => ?_) (fun h5 => ?_)
        · refine dgo ?_
          refine d_end (h := ?_)
          refine go ?_
          refine ret1 ⟨_, rfl, close_no ?_, hE⟩
          rintro ⟨h, _⟩
          rw [hb3.2 h] at h5; cases h5
        · have h6 := hb3.1 (by simpa using h5)
          refine dgo ?_
          refine dspd (fun h7 => ?_) (fun h7 => ?_)
          · refine dgo ?_
            refine d_end (h := ?_)
            refine go ?_
            refine c_if (fun h8 => ?_) (fun h8 => ?_)
            · refine go ?_
              refine ret1 ⟨_, rfl, close_no ?_, hE⟩
              rintro ⟨_, h⟩
              exact h8 (h h7)
            · refine go ?_
              refine forQ_normal hkl ⟨?_, hE, fun i hi => ?_⟩
              · exact hasP
              · by_cases e : i = k
                · subst e; exact ⟨h6, fun _ => Decidable.not_not.1 h8⟩
                · exact hpre i (by omega)
          · refine dgo ?_
            refine d_end (h := ?_)
            refine go ?_
            refine forQ_normal hkl ⟨?_, hE, fun i hi => ?_⟩
            · exact hasP
            · by_cases e : i = k
              · subst e; exact ⟨h6, fun h => absurd h h7⟩
              · exact hpre i (by omega)
      · refine go ?_
        refine ret1 ⟨_, rfl, ?_, he⟩
        simp only [true_iff]
        exact ⟨by omega, fun i hi => hpre i (by omega)⟩
end Go.Proofs.Ytjljbfcdpdckeaa

/-
  Walks: the program's small functions on lists, and those of package slices that it calls.
  Conditions: stated at each theorem: what the arguments read as, and that lists are short.
-/
namespace Go.Proofs.Ytjljbfcdpdckeaa
open Go Go.Pc
theorem inside_ok {n l h : Int} {w : World} : Calls Try.prog 74 #[.int .i64 n, .int .i64 l, .int .i64 h] w (Ret fun v w' => ∃ b, v = .bool b ∧ (b = true ↔ l ≤ n ∧ n ≤ h) ∧ Ext w w') := by
  refine enter (args := [.int .i64 n, .int .i64 l, .int .i64 h]) (l := [.tmp 6]) Try.func74 rfl rfl Try.ntmps74 (by simp) ?_
  refine go ?_
  refine spd (fun h1 => ?_) (fun h1 => ?_)
  · refine go ?_
    refine ret1 ⟨_, rfl, ?_, Ext.refl _⟩
    simp [h1]
  · refine go ?_
    refine ret1 ⟨_, rfl, ?_, Ext.refl _⟩
    simp [h1]
theorem IsGroupPrime_ok {n : Int} {w : World} : Calls Try.prog 88 #[.int .i64 n] w (Ret fun v w' => ∃ b, v = .bool b ∧ (b = true ↔ (n = 2 ∨ n = 3 ∨ n = 5 ∨ n = 7)) ∧ Ext w w') := by
  refine enter (args := [.int .i64 n]) (l := [.tmp 2]) Try.func88 rfl rfl Try.ntmps88 (by simp) ?_
  refine go ?_
  refine spd (fun h1 => ?_) (fun h1 => ?_)
  · refine go ?_
    refine ret1 ⟨_, rfl, ?_, Ext.refl _⟩
    simp [h1]
  · refine go ?_
    refine spd (fun h2 => ?_) (fun h2 => ?_)
    · refine go ?_
      refine ret1 ⟨_, rfl, ?_, Ext.refl _⟩
      simp [h2]
    · refine go ?_
      refine spd (fun h3 => ?_) (fun h3 => ?_)
      · refine go ?_
        refine ret1 ⟨_, rfl, ?_, Ext.refl _⟩
        simp [h3]
      · refine go ?_
        refine ret1 ⟨_, rfl, ?_, Ext.refl _⟩
        simp [h1, h2, h3]
set_option maxHeartbeats 400000 in
theorem isZero_ok {w : World} {v : Value} {xs : List Int} {lo hi : Nat} [hx : Ints lo hi w v xs] (hl : xs.length ≤ 2000000) :
    Calls Try.prog 141 #[v] w (Ret fun v w' => ∃ b, v = .bool b ∧ (b = true ↔ ∀ i, i < xs.length → xs.getD i 0 = 0) ∧ Ext w w') := by
  refine enter (args := [v]) (l := [.tmp 2]) Try.func141 rfl rfl Try.ntmps141 (by simp) ?_
  refine go ?_
  refine r_for xs.length (fun k ρ w' => Has ρ [(0, v), (5, v), (6, .int .i64 xs.length), (7, .int .i64 k)] ∧ Ext w w' ∧ ∀ i, i < k → xs.getD i 0 = 0) ?_ ?_
  · refine ⟨?_, Ext.refl _, fun i hi => by omega⟩
    exact hasP
  rintro k ρ w2 hk ⟨hH, he2, hI⟩
  refine rwp_has hH fun ρ0 => ?_
  refine go ?_
  refine c_if (fun h4 => ?_) (fun h4 => ?_)
  · refine go ?_
    refine c_if (fun h5 => ?_) (fun h5 => ?_)
    · refine go ?_
      refine ret1 ⟨_, rfl, ?_, he2⟩
      simp only [Bool.false_eq_true, false_iff]
      exact fun h => h5 (h k (by omega))
    · refine go ?_
      refine forQ_normal (by omega) ⟨?_, he2, fun i hi => ?_⟩
      · exact hasP
      · by_cases e : i = k
        · subst e; exact Decidable.not_not.1 h5
        · exact hI i (by omega)
  · refine go ?_
    refine ret1 ⟨_, rfl, ?_, he2⟩
    simp only [true_iff]
    exact fun i hi => hI i (by omega)
set_option maxHeartbeats 400000 in
theorem isExponents_ok {w : World} {vp vx : Value} {p : Pr} {xs : List Int} {lo hi lo1 hi1 : Nat} [hp : PresP lo hi w vp p] [hx : Ints lo1 hi1 w vx xs] (hb : ∀ i, i < p.n → 2 ≤ p.o i ∧ p.o i ≤ 7) (hl : p.n ≤ 2000000) :
    Calls Try.prog 73 #[vp, vx] w (Ret fun v w' => ∃ b, v = .bool b ∧ (b = true ↔ InR p xs) ∧ Ext w w') := by
  have hol : p.ord.length = p.n := rfl
  obtain ⟨b, og, vo, vpw, vc, ps, cs, css, rfl, hb1, hb2, hc0, hc1, hc2, h1, h2, h3⟩ := hp.ex
  refine enter (args := [.pointer (some ⟨b, og, none⟩), vx]) (l := [.tmp 4]) Try.func73 rfl rfl Try.ntmps73 (by simp) ?_
  refine go ?_
  refine c_if (fun h4 => ?_) (fun h4 => ?_)
  · refine go ?_
    refine ret1 ⟨_, rfl, ?_, Ext.refl _⟩
    simp only [Bool.false_eq_true, false_iff]
    intro h
    have := h.len
    omega
  have hxl : xs.length = p.n := by omega
  refine go ?_
  refine r_for xs.length (fun k ρ w' => Has ρ [(0, .pointer (some ⟨b, og, none⟩)), (1, vx), (15, vx), (16, .int .i64 xs.length), (17, .int .i64 k)] ∧ Ext w w' ∧ ∀ i, i < k → 0 ≤ xs.getD i 0 ∧ xs.getD i 0 < p.o i) ?_ ?_
  · refine ⟨?_, Ext.refl _, fun i hi => by omega⟩
    exact hasP
  rintro k ρ w2 hk ⟨hH, he2, hI⟩
  refine rwp_has hH fun ρ0 => ?_
  refine go ?_
  refine c_if (fun h5 => ?_) (fun h5 => ?_)
  · have hbk := hb k (by omega)
    have hoe : p.ord.getD k 0 = p.o k := rfl
    refine go ?_
    refine rc inside_ok (next := fun v3 w3 h3 => ?_)
    obtain ⟨b3, rfl, hb3, he3⟩ := h3
    refine go ?_
    refine c_b (fun h6 => ?_) (fun h6 => ?_)
    · refine go ?_
      refine ret1 ⟨_, rfl, ?_, he2.trans he3⟩
      simp only [Bool.false_eq_true, false_iff]
      intro h
      have h7 := h.rng k (by omega)
      have := hb3.2 (by omega)
      rw [this] at h6; cases h6
    · have h7 := hb3.1 (by simpa using h6)
      refine go ?_
      refine forQ_normal (by omega) ⟨?_, he2.trans he3, fun i hi => ?_⟩
      · exact hasP
      · by_cases e : i = k
        · subst e; omega
        · exact hI i (by omega)
  · refine go ?_
    refine ret1 ⟨_, rfl, ?_, he2⟩
    simp only [true_iff]
    exact ⟨hxl, fun i hi => hI i (by omega)⟩
set_option maxHeartbeats 400000 in
theorem tailVector_ok {w : World} {vp vx : Value} {p : Pr} {xs : List Int} {i : Nat} {ki : Int} {lo hi lo1 hi1 : Nat} [hp : PresP lo hi w vp p] [hx : Ints lo1 hi1 w vx xs] (hki : ki = i) (hi' : i < p.n) (hb : ∀ i, i < p.n → 2 ≤ p.o i ∧ p.o i ≤ 7) (hl : p.n ≤ 2000000) :
    Calls Try.prog 89 #[vp, .int .i64 ki, vx] w (Ret fun v w' => ∃ b, v = .bool b ∧ (b = true ↔ InR p xs ∧ ZU (i + 1) xs) ∧ Ext w w') := by
  subst hki
  refine enter (args := [vp, .int .i64 i, vx]) (l := [.tmp 6]) Try.func89 rfl rfl Try.ntmps89 (by simp) ?_
  refine go ?_
  refine rc (isExponents_ok (xs := xs) hb hl) (next := fun v3 w3 h3 => ?_)
  obtain ⟨b3, rfl, hb3, he3⟩ := h3
  refine go ?_
  refine sp (fun e3 => ?_) (fun e3 => ?_)
  · have hr := hb3.1 e3
    have hxl := hr.len
    refine go ?_
    have hcut : Ints lo1 hi1 w (cutTo vx (i + 1)) (xs.take (i + 1)) := hx.cutTo (by omega)
    refine rc (isZero_ok (xs := xs.take (i + 1)) ?_) (next := fun v4 w4 h4 => ?_)
    · rw [List.length_take]; omega
    obtain ⟨b4, rfl, hb4, he4⟩ := h4
    refine go ?_
    refine ret1 ⟨_, rfl, hb4.trans ?_, he3.trans he4⟩
    constructor
    · intro h
      refine ⟨hr, fun k hk => ?_⟩
      have := h k (by rw [List.length_take]; omega)
      simpa [List.getElem?_take, hk] using this
    · rintro ⟨_, h⟩ k hk
      rw [List.length_take] at hk
      have := h k (by omega)
      simpa [List.getElem?_take, show k < i + 1 by omega] using this
  · refine go ?_
    refine ret1 ⟨_, rfl, ?_, he3⟩
    simp only [Bool.false_eq_true, false_iff]
    rintro ⟨h, _⟩
    have := hb3.2 h
    rw [e3] at this; cases this
end Go.Proofs.Ytjljbfcdpdckeaa

/-
  Walks: the program's residues and inverses modulo a group prime (residue, inverseMod).
  Conditions: stated at each theorem.
-/
namespace Go.Proofs.Ytjljbfcdpdckeaa
open Go Go.Pc
end Go.Proofs.Ytjljbfcdpdckeaa

/-
  Plain mathematics: groups, powers, conjugates, homomorphisms out of normal forms.
  Conditions: none; nothing of the program stands here.
-/
namespace Go.Pc

class Grp (G : Type) extends Mul G, One G, Inv G where
  mul_assoc : ∀ a b c : G, a * b * c = a * (b * c)
  one_mul : ∀ a : G, 1 * a = a
  inv_mul : ∀ a : G, a⁻¹ * a = 1
namespace Grp
variable {G : Type} [Grp G]
theorem inv_mul_cancel_left (a b : G) : a⁻¹ * (a * b) = b := by rw [← mul_assoc, inv_mul, one_mul]
theorem mul_left_cancel {a b c : G} (h : a * b = a * c) : b = c := by
  rw [← inv_mul_cancel_left a b, h, inv_mul_cancel_left]
theorem mul_inv (a : G) : a * a⁻¹ = 1 := by
  apply mul_left_cancel (a := a⁻¹)
  rw [inv_mul_cancel_left]
  apply mul_left_cancel (a := a⁻¹⁻¹)
  rw [inv_mul, inv_mul_cancel_left]
theorem mul_one (a : G) : a * 1 = a := by
  apply mul_left_cancel (a := a⁻¹)
  rw [inv_mul_cancel_left, inv_mul]
theorem mul_inv_cancel_left (a b : G) : a * (a⁻¹ * b) = b := by rw [← mul_assoc, mul_inv, one_mul]
theorem mul_inv_cancel_right (a b : G) : a * b * b⁻¹ = a := by rw [mul_assoc, mul_inv, mul_one]
theorem inv_mul_cancel_right (a b : G) : a * b⁻¹ * b = a := by rw [mul_assoc, inv_mul, mul_one]
theorem mul_right_cancel {a b c : G} (h : a * c = b * c) : a = b := by
  rw [← mul_inv_cancel_right a c, h, mul_inv_cancel_right]
theorem eq_inv_of_mul {a b : G} (h : a * b = 1) : a = b⁻¹ := mul_right_cancel (c := b) (by rw [h, inv_mul])
theorem eq_inv_of_mul' {a b : G} (h : a * b = 1) : b = a⁻¹ := mul_left_cancel (a := a) (by rw [h, mul_inv])
theorem inv_inv (a : G) : a⁻¹⁻¹ = a := (eq_inv_of_mul (mul_inv a)).symm
theorem inv_one : (1 : G)⁻¹ = 1 := (eq_inv_of_mul (one_mul 1)).symm
theorem mul_inv_rev (a b : G) : (a * b)⁻¹ = b⁻¹ * a⁻¹ := (eq_inv_of_mul (by rw [mul_assoc, inv_mul_cancel_left, inv_mul])).symm

/-- Powers. -/
def pw (a : G) : Nat → G
  | 0 => 1
  | k + 1 => pw a k * a
theorem pw_zero (a : G) : pw a 0 = 1 := rfl
theorem pw_succ (a : G) (k : Nat) : pw a (k + 1) = pw a k * a := rfl
theorem pw_one (a : G) : pw a 1 = a := by rw [pw_succ, pw_zero, one_mul]
theorem pw_add (a : G) (j k : Nat) : pw a (j + k) = pw a j * pw a k := by
  induction k with
  | zero => rw [pw_zero, mul_one]; rfl
  | succ k ih => rw [← Nat.add_assoc, pw_succ, ih, pw_succ, mul_assoc]
theorem pw_succ' (a : G) (k : Nat) : pw a (k + 1) = a * pw a k := by rw [Nat.add_comm, pw_add, pw_one]
theorem pw_mul (a : G) (j k : Nat) : pw a (j * k) = pw (pw a j) k := by
  induction k with
  | zero => rfl
  | succ k ih => rw [Nat.mul_succ, pw_add, ih, pw_succ]
theorem one_pw (k : Nat) : pw (1 : G) k = 1 := by
  induction k with
  | zero => rfl
  | succ k ih => rw [pw_succ, ih, one_mul]
theorem inv_pw (a : G) (k : Nat) : pw a⁻¹ k = (pw a k)⁻¹ := by
  induction k with
  | zero => exact inv_one.symm
  | succ k ih => rw [pw_succ, ih, pw_succ', mul_inv_rev]
/-- The power by any integer. -/
def pwz (x : G) (k : Int) : G := if k < 0 then pw x⁻¹ (-k).toNat else pw x k.toNat
theorem pwz_nat (x : G) (k : Nat) : pwz x k = pw x k := by unfold pwz; rw [if_neg (by omega)]; simp
theorem pwz_of {k : Int} (x : G) (h : 0 ≤ k) : pwz x k = pw x k.toNat := by unfold pwz; rw [if_neg (by omega)]
theorem pwz_neg (x : G) (k : Nat) : pwz x (-(k : Int)) = (pw x k)⁻¹ := by
  unfold pwz
  by_cases h : k = 0
  · subst h; rw [if_neg (by omega)]; show (1 : G) = (1 : G)⁻¹; rw [inv_one]
  · rw [if_pos (by omega), Int.neg_neg, Int.toNat_natCast, inv_pw]
theorem pwz_top (y : G) (o : Nat) (ho : 1 ≤ o) (k : Int) : ∃ j m : Nat, pw y j = pwz y k * pw (pw y o) m ∧ pw y j = pw (pw y o) m * pwz y k := by
  by_cases h : 0 ≤ k
  · obtain ⟨n, rfl⟩ := Int.eq_ofNat_of_zero_le h
    exact ⟨n, 0, by rw [pwz_nat, pw_zero, mul_one], by rw [pwz_nat, pw_zero, one_mul]⟩
  · obtain ⟨n, hn⟩ : ∃ n : Nat, k = -(n : Int) := ⟨(-k).toNat, by omega⟩
    subst hn
    obtain ⟨q, rfl⟩ : ∃ q, o = q + 1 := ⟨o - 1, by omega⟩
    have e : (q + 1) * n = n + q * n := by rw [Nat.add_mul, Nat.one_mul, Nat.add_comm]
    refine ⟨q * n, n, ?_, ?_⟩
    · rw [pwz_neg, ← pw_mul, e, pw_add, inv_mul_cancel_left]
    · rw [pwz_neg, ← pw_mul, e, Nat.add_comm, pw_add, mul_inv_cancel_right]
/-- Conjugates: cj a b is b⁻¹ a b. -/
def cj (a b : G) : G := b⁻¹ * (a * b)
theorem cj_mul (a b c : G) : cj (a * b) c = cj a c * cj b c := by
  unfold cj; simp only [mul_assoc]; rw [mul_inv_cancel_left]
theorem cj_one (b : G) : cj 1 b = 1 := by unfold cj; rw [one_mul, inv_mul]
theorem cj_by_one (a : G) : cj a 1 = a := by unfold cj; rw [inv_one, one_mul, mul_one]
theorem cj_cj (a b c : G) : cj (cj a b) c = cj a (b * c) := by unfold cj; rw [mul_inv_rev]; simp only [mul_assoc]
theorem cj_pw (a b : G) (k : Nat) : cj (pw a k) b = pw (cj a b) k := by
  induction k with
  | zero => exact cj_one b
  | succ k ih => rw [pw_succ, cj_mul, ih, pw_succ]
theorem cj_inv (a b : G) : cj a⁻¹ b = (cj a b)⁻¹ := eq_inv_of_mul (by rw [← cj_mul, inv_mul, cj_one])
theorem mul_cj (a b : G) : b * cj a b = a * b := by unfold cj; rw [mul_inv_cancel_left]
/-- Commutators: cm a b is a⁻¹ b⁻¹ a b. -/
def cm (a b : G) : G := a⁻¹ * cj a b
theorem cm_eq (a b : G) : cm a b = (b * a)⁻¹ * (a * b) := by unfold cm cj; rw [mul_inv_rev, mul_assoc]
end Grp

/-- The product of c_j to the power x_j, from j = l on, over k generators. -/
def phi {H : Type} [Grp H] (c : Nat → H) (x : List Int) (l : Nat) : Nat → H
  | 0 => 1
  | k + 1 => Grp.pw (c l) (x.getD l 0).toNat * phi c x (l + 1) k
theorem phi_congr {H : Type} [Grp H] (c : Nat → H) {x y : List Int} : ∀ (k l : Nat), (∀ j, l ≤ j → x.getD j 0 = y.getD j 0) → phi c x l k = phi c y l k
  | 0, _, _ => rfl
  | k + 1, l, h => by rw [phi, phi, h l (Nat.le_refl _), phi_congr c k (l + 1) (fun j hj => h j (by omega))]
theorem phi_zero {H : Type} [Grp H] (c : Nat → H) {x : List Int} : ∀ (k l : Nat), (∀ j, l ≤ j → x.getD j 0 = 0) → phi c x l k = 1
  | 0, _, _ => rfl
  | k + 1, l, h => by rw [phi, h l (Nat.le_refl _), phi_zero c k (l + 1) (fun j hj => h j (by omega))]; exact Grp.one_mul _
/-- From the right: the last factor split off. -/
theorem phi_last {H : Type} [Grp H] (c : Nat → H) (x : List Int) : ∀ (k l : Nat), phi c x l (k + 1) = phi c x l k * Grp.pw (c (l + k)) (x.getD (l + k) 0).toNat
  | 0, l => by rw [phi, phi, phi]; rw [Grp.mul_one, Grp.one_mul]; rfl
  | k + 1, l => by
    rw [phi, phi_last c x k (l + 1), phi, Grp.mul_assoc, show l + 1 + k = l + (k + 1) by omega]
end Go.Pc

/-
  Plain mathematics: a map on generators that respects the relations is a homomorphism; the tail of one generator more is a group.
  Conditions: none; nothing of the program stands here.
-/
namespace Go.Pc
open Grp

section dyck
variable {p : Pr} {H : Type} [Grp H] (c : Nat → H)
theorem phi_set {x : List Int} {l k : Nat} {a : Int} (j : Nat) (hj : j < l) : phi c (x.set j a) l k = phi c x l k :=
  phi_congr c k l fun i hi => getD_set_ne _ _ _ _ (by omega)
theorem phi_rep (hv : Valid p) {l m : Nat} (hom : ∀ x y, InR p x → InR p y → ZU l x → ZU l y → phi c (atv p l x y) l m = phi c x l m * phi c y l m)
    {d : List Int} (hd : InR p d ∧ ZU l d) {x : List Int} (hx : InR p x ∧ ZU l x) : ∀ q, phi c (rep q (fun o => atv p l o d) x) l m = phi c x l m * pw (phi c d l m) q
  | 0 => by rw [rep_zero, pw_zero, Grp.mul_one]
  | q + 1 => by
    have hin := rep_inv (fun v => InR p v ∧ ZU l v) (f := fun o => atv p l o d) (fun o ho => atv_in hv _ _ rfl _ _ ho.1 hd.1 ho.2 hd.2) hx q
    rw [rep_succ, hom _ _ hin.1 hd.1 hin.2 hd.2, phi_rep hv hom hd hx q, Grp.mul_assoc, pw_succ]
theorem phi_img (hv : Valid p) {l : Nat} (hl : l < p.n) (hom : ∀ x y, InR p x → InR p y → ZU (l + 1) x → ZU (l + 1) y → phi c (atv p (l + 1) x y) (l + 1) (p.n - (l + 1)) = phi c x (l + 1) (p.n - (l + 1)) * phi c y (l + 1) (p.n - (l + 1)))
    (hC : ∀ k, l < k → k < p.n → cj (c k) (c l) = phi c (p.c l k) (l + 1) (p.n - (l + 1))) (x : List Int) :
    ∀ k, k ≤ p.n - (l + 1) → phi c (imgTo p l x k) (l + 1) (p.n - (l + 1)) = cj (phi c x (l + 1) k) (c l)
  | 0, _ => by rw [imgTo_zero, phi_zero c _ _ (fun _ _ => zeros_getD _ _), phi, cj_one]
  | k + 1, hk => by
    rw [imgTo_succ, phi_rep c hv hom ⟨hv.c_in _ _ (by omega) (by omega), hv.c_zu _ _ (by omega) (by omega)⟩ (imgTo_in hv (atv_in hv _ (l + 1) rfl) x k (by omega)),
      phi_img hv hl hom hC x k (by omega), ← hC _ (by omega) (by omega), phi_last, cj_mul, cj_pw]
theorem phi_rep_img (hv : Valid p) {l : Nat} (hl : l < p.n) (hom : ∀ x y, InR p x → InR p y → ZU (l + 1) x → ZU (l + 1) y → phi c (atv p (l + 1) x y) (l + 1) (p.n - (l + 1)) = phi c x (l + 1) (p.n - (l + 1)) * phi c y (l + 1) (p.n - (l + 1)))
    (hC : ∀ k, l < k → k < p.n → cj (c k) (c l) = phi c (p.c l k) (l + 1) (p.n - (l + 1))) (x : List Int) :
    ∀ q, phi c (rep q (img p l) x) (l + 1) (p.n - (l + 1)) = cj (phi c x (l + 1) (p.n - (l + 1))) (pw (c l) q)
  | 0 => by rw [rep_zero, pw_zero, cj_by_one]
  | q + 1 => by rw [rep_succ, img_eq, phi_img c hv hl hom hC _ _ (Nat.le_refl _), phi_rep_img hv hl hom hC x q, cj_cj, pw_succ]
/-- What respects the relations behind l0 is a homomorphism on every tail from l0 on. -/
theorem dyck (hv : Valid p) (l0 : Nat) (hP : ∀ j, l0 ≤ j → j < p.n → pw (c j) (p.o j).toNat = phi c (p.w j) (j + 1) (p.n - (j + 1)))
    (hC : ∀ j k, l0 ≤ j → j < k → k < p.n → cj (c k) (c j) = phi c (p.c j k) (j + 1) (p.n - (j + 1))) :
    ∀ (m l : Nat), l0 ≤ l → p.n - l = m → ∀ x y, InR p x → InR p y → ZU l x → ZU l y → phi c (atv p l x y) l m = phi c x l m * phi c y l m
  | 0, l, _, hm, x, y, _, _, _, _ => (Grp.one_mul _).symm
  | m + 1, l, h0, hm, x, y, hx, hy, zx, zy => by
    have hl : l < p.n := by omega
    have hm' : p.n - (l + 1) = m := by omega
    have ih := dyck hv l0 hP hC m (l + 1) (by omega) hm'
    rw [← hm'] at ih ⊢
    have hC' := fun k hk hk' => hC l k h0 hk hk'
    have hx' : InR p (x.set l 0) ∧ ZU (l + 1) (x.set l 0) := ⟨hx.set (by omega) (fun h => by have := hv.opos h; omega), zx.set0⟩
    have hy' : InR p (y.set l 0) ∧ ZU (l + 1) (y.set l 0) := ⟨hy.set (by omega) (fun h => by have := hv.opos h; omega), zy.set0⟩
    have hL := rep_inv (fun v => InR p v ∧ ZU (l + 1) v) (f := img p l) (fun u _ => img_in hv l u) hx' (y.getD l 0).toNat
    have hR := atv_in hv _ (l + 1) rfl _ _ hL.1 hy'.1 hL.2 hy'.2
    have hxr := hx.rng l hl
    have hyr := hy.rng l hl
    have hrest : phi c (atv p (l + 1) (rep (y.getD l 0).toNat (img p l) (x.set l 0)) (y.set l 0)) (l + 1) (p.n - (l + 1)) =
        cj (phi c x (l + 1) (p.n - (l + 1))) (pw (c l) (y.getD l 0).toNat) * phi c y (l + 1) (p.n - (l + 1)) := by
      rw [ih _ _ hL.1 hy'.1 hL.2 hy'.2, phi_rep_img c hv hl ih hC', phi_set c l (by omega), phi_set c l (by omega)]
    show pw (c l) ((atv p l x y).getD l 0).toNat * phi c (atv p l x y) (l + 1) (p.n - (l + 1)) = _
    rw [atv_eq p l x y hl]
    split
    · rename_i hcar
      have hW := atv_in hv _ (l + 1) rfl _ _ (hv.w_in l hl) hR.1 (hv.w_zu l hl) hR.2
      rw [getD_set_eq _ _ _ (by rw [hW.1.len]; exact hl), phi_set c l (by omega), ih _ _ (hv.w_in l hl) hR.1 (hv.w_zu l hl) hR.2, hrest, ← hP l h0 hl]
      rw [← Grp.mul_assoc, ← pw_add, show (x.getD l 0 + y.getD l 0 - p.o l).toNat + (p.o l).toNat = (x.getD l 0).toNat + (y.getD l 0).toNat by omega, pw_add]
      rw [Grp.mul_assoc, ← Grp.mul_assoc (pw (c l) (y.getD l 0).toNat), mul_cj]
      show _ = (pw (c l) (x.getD l 0).toNat * phi c x (l + 1) (p.n - (l + 1))) * (pw (c l) (y.getD l 0).toNat * phi c y (l + 1) (p.n - (l + 1)))
      simp only [Grp.mul_assoc]
    · rw [getD_set_eq _ _ _ (by rw [hR.1.len]; exact hl), phi_set c l (by omega), hrest]
      rw [show (x.getD l 0 + y.getD l 0).toNat = (x.getD l 0).toNat + (y.getD l 0).toNat by omega, pw_add]
      rw [Grp.mul_assoc, ← Grp.mul_assoc (pw (c l) (y.getD l 0).toNat), mul_cj]
      show _ = (pw (c l) (x.getD l 0).toNat * phi c x (l + 1) (p.n - (l + 1))) * (pw (c l) (y.getD l 0).toNat * phi c y (l + 1) (p.n - (l + 1)))
      simp only [Grp.mul_assoc]
end dyck
end Go.Pc

/-
  Plain mathematics: the vectors with zeros ahead of a level, as a type; where the level's conditions hold they form a group.
  Conditions: none; nothing of the program stands here.
-/
namespace Go.Pc
open Grp

/-- The vectors of the tail at i. -/
structure T (p : Pr) (i : Nat) where
  v : List Int
  inr : InR p v
  zu : ZU i v
theorem T.ext {p : Pr} {i : Nat} {a b : T p i} (h : a.v = b.v) : a = b := by cases a; cases b; cases h; rfl
theorem list_ext0 {v u : List Int} (hl : v.length = u.length) (h : ∀ k, k < v.length → v.getD k 0 = u.getD k 0) : v = u := by
  apply List.ext_getElem hl
  intro k h1 h2
  have := h k h1
  simpa [List.getD_eq_getElem?_getD, h1, h2] using this
theorem inr_ext {p : Pr} {v u : List Int} (hv : InR p v) (hu : InR p u) (h : ∀ k, k < p.n → v.getD k 0 = u.getD k 0) : v = u :=
  list_ext0 (by rw [hv.len, hu.len]) fun k hk => h k (by rw [← hv.len]; exact hk)

section
variable {p : Pr} (hv : Valid p)
theorem img_zeros (l : Nat) : img p l (zeros p.n) = zeros p.n := by
  rw [img_eq]
  have : ∀ k, imgTo p l (zeros p.n) k = zeros p.n := by
    intro k
    induction k with
    | zero => rfl
    | succ k ih => rw [imgTo_succ, zeros_getD, ih]; rfl
  exact this _
theorem rep_id {α : Type} {f : α → α} {x : α} (h : f x = x) : ∀ k, rep k f x = x
  | 0 => rfl
  | k + 1 => by rw [rep_succ, rep_id h k, h]
theorem set_self {v : List Int} {i : Nat} (h : i < v.length) : v.set i (v.getD i 0) = v := by
  apply list_ext0 (by simp)
  intro k hk
  by_cases e : i = k
  · subst e; rw [getD_set_eq _ _ _ h]
  · rw [getD_set_ne _ _ _ _ e]
theorem set_set {v : List Int} {i : Nat} {a b : Int} : (v.set i a).set i b = v.set i b := by simp
include hv
theorem one_at : ∀ (m i : Nat), p.n - i = m → ∀ b, InR p b → ZU i b → atv p i (zeros p.n) b = b
  | 0, i, hm, b, hb, zb => by
    rw [atv_end _ _ _ _ (by omega)]
    exact inr_ext hv.zeros_in hb fun k hk => by rw [zeros_getD, zb k (by omega)]
  | m + 1, i, hm, b, hb, zb => by
    have hi : i < p.n := by omega
    have h1 := hb.rng i hi
    rw [atv_eq _ _ _ _ hi, zeros_getD, if_neg (by omega)]
    have hz : (zeros p.n).set i 0 = zeros p.n := by
      have := set_self (v := zeros p.n) (i := i) (by rw [zeros_len]; exact hi)
      rwa [zeros_getD] at this
    rw [hz, rep_id (img_zeros i), one_at m (i + 1) (by omega) _ (hb.set (by omega) (fun _ => by omega)) zb.set0, set_set, Int.zero_add, set_self (by rw [hb.len]; exact hi)]
theorem at_one : ∀ (m i : Nat), p.n - i = m → ∀ a, InR p a → ZU i a → atv p i a (zeros p.n) = a
  | 0, i, hm, b, hb, zb => by
    rw [atv_end _ _ _ _ (by omega)]
    exact inr_ext hv.zeros_in hb fun k hk => by rw [zeros_getD, zb k (by omega)]
  | m + 1, i, hm, a, ha, za => by
    have hi : i < p.n := by omega
    have h1 := ha.rng i hi
    rw [atv_eq _ _ _ _ hi, zeros_getD, if_neg (by omega)]
    have hz : (zeros p.n).set i 0 = zeros p.n := by
      have := set_self (v := zeros p.n) (i := i) (by rw [zeros_len]; exact hi)
      rwa [zeros_getD] at this
    rw [hz, show (0 : Int).toNat = 0 from rfl, rep_zero, at_one m (i + 1) (by omega) _ (ha.set (by omega) (fun _ => by omega)) za.set0, set_set, Int.add_zero, set_self (by rw [ha.len]; exact hi)]
/-- In a shorter tail the product is the same. -/
theorem at_restrict {i : Nat} (hi : i < p.n) {a b : List Int} (ha : InR p a) (hb : InR p b) (za : ZU (i + 1) a) (zb : ZU (i + 1) b) : atv p i a b = atv p (i + 1) a b := by
  have h1 := hv.opos hi
  have ea : a.set i 0 = a := by rw [← za i (by omega)]; exact set_self (by rw [ha.len]; exact hi)
  have eb : b.set i 0 = b := by rw [← zb i (by omega)]; exact set_self (by rw [hb.len]; exact hi)
  have hr := atv_in hv _ (i + 1) rfl _ _ ha hb za zb
  rw [atv_eq _ _ _ _ hi, za i (by omega), zb i (by omega), if_neg (by omega), ea, eb]
  show (atv p (i + 1) (rep 0 (img p i) a) b).set i 0 = _
  rw [rep_zero, ← hr.2 i (by omega)]
  exact set_self (by rw [hr.1.len]; exact hi)
theorem at_restrict' {i d : Nat} (hid : i ≤ d) {a b : List Int} (ha : InR p a) (hb : InR p b) (za : ZU d a) (zb : ZU d b) : atv p i a b = atv p d a b := by
  obtain ⟨k, rfl⟩ : ∃ k, d = i + k := ⟨d - i, by omega⟩
  clear hid
  induction k with
  | zero => rfl
  | succ k ih =>
    rw [ih (za.mono (by omega)) (zb.mono (by omega))]
    by_cases hi : i + k < p.n
    · exact at_restrict hv hi ha hb za zb
    · rw [atv_end _ _ _ _ (by omega), atv_end _ _ _ _ (by omega)]
end

def tmul {p : Pr} (hv : Valid p) {i : Nat} (a b : T p i) : T p i := ⟨atv p i a.v b.v, (atv_in hv _ i rfl _ _ a.inr b.inr a.zu b.zu).1, (atv_in hv _ i rfl _ _ a.inr b.inr a.zu b.zu).2⟩
def tone {p : Pr} (hv : Valid p) (i : Nat) : T p i := ⟨zeros p.n, hv.zeros_in, zeros_zu _ _⟩
/-- The tail at i is a group. -/
class Con (p : Pr) (i : Nat) : Prop where
  valid : Valid p
  assoc : ∀ a b c : T p i, tmul valid (tmul valid a b) c = tmul valid a (tmul valid b c)
  inv : ∀ a : T p i, ∃ b, tmul valid b a = tone valid i
noncomputable instance {p : Pr} {i : Nat} [h : Con p i] : Grp (T p i) where
  mul := tmul h.valid
  one := tone h.valid i
  inv a := Classical.choose (h.inv a)
  mul_assoc := h.assoc
  one_mul a := T.ext (one_at h.valid _ i rfl a.v a.inr a.zu)
  inv_mul a := Classical.choose_spec (h.inv a)
theorem T.mul_val {p : Pr} {i : Nat} [h : Con p i] (a b : T p i) : (a * b).v = atv p i a.v b.v := rfl
/-! ### one generator more -/
section ext
variable {p : Pr} {i : Nat}
/-- The conjugate of generator j by generator i, in the tail behind i. -/
def Tc (hv : Valid p) {j : Nat} (hj : i < j ∧ j < p.n) : T p (i + 1) := ⟨p.c i j, hv.c_in _ _ hj.1 hj.2, hv.c_zu _ _ hj.1 hj.2⟩
def Tw (hv : Valid p) (hi : i < p.n) : T p (i + 1) := ⟨p.w i, hv.w_in _ hi, hv.w_zu _ hi⟩
/-- The same as a function on all numbers. -/
noncomputable def cOf (p : Pr) (i : Nat) [h : Con p (i + 1)] (j : Nat) : T p (i + 1) := open Classical in if hj : i < j ∧ j < p.n then Tc h.valid hj else 1
def Timg (hv : Valid p) (x : T p (i + 1)) : T p (i + 1) := ⟨img p i x.v, (img_in hv i x.v).1, (img_in hv i x.v).2⟩

theorem imgTo_phi [h : Con p (i + 1)] (x : List Int) : ∀ k, k ≤ p.n - (i + 1) → ∀ hin hzu, (⟨imgTo p i x k, hin, hzu⟩ : T p (i + 1)) = phi (cOf p i) x (i + 1) k
  | 0, _, _, _ => rfl
  | k + 1, hk, hin, _ => by
    have hk' := imgTo_in h.valid (atv_in h.valid _ (i + 1) rfl) x k (by omega)
    rw [phi_last, ← imgTo_phi x k (by omega) hk'.1 hk'.2]
    have hj : i < i + 1 + k ∧ i + 1 + k < p.n := ⟨by omega, by omega⟩
    have hc : cOf p i (i + 1 + k) = Tc h.valid hj := dif_pos hj
    have key : ∀ q (acc : T p (i + 1)), rep q (fun o => atv p (i + 1) o (p.c i (i + 1 + k))) acc.v = (acc * pw (Tc h.valid hj) q).v := by
      intro q acc
      induction q with
      | zero => rw [rep_zero, pw_zero, Grp.mul_one]
      | succ q ih => rw [rep_succ, ih, pw_succ, ← Grp.mul_assoc]; rfl
    apply T.ext
    show imgTo p i x (k + 1) = _
    rw [imgTo_succ, hc]
    exact key _ ⟨imgTo p i x k, hk'.1, hk'.2⟩
theorem img_phi [h : Con p (i + 1)] (x : T p (i + 1)) : Timg h.valid x = phi (cOf p i) x.v (i + 1) (p.n - (i + 1)) := imgTo_phi x.v _ (Nat.le_refl _) _ _

/-- The four conditions of a level. -/
def unitv (p : Pr) (j : Nat) (k : Int) : List Int := (zeros p.n).set j k
theorem unitv_in {p : Pr} (hv : Valid p) {j : Nat} {k : Int} (h0 : 0 ≤ k) (h1 : j < p.n → k < p.o j) : InR p (unitv p j k) := hv.zeros_in.set h0 h1
theorem unitv_zu (p : Pr) {i j : Nat} (hij : i ≤ j) (k : Int) : ZU i (unitv p j k) := (zeros_zu _ _).set hij
/-- Generator j, in the tail at i. -/
def gen (hv : Valid p) (i j : Nat) (hj : i ≤ j ∧ j < p.n) : T p i := ⟨unitv p j 1, unitv_in hv (by omega) (fun h => by have := hv.opos h; omega), unitv_zu p hj.1 1⟩
structure Chk (p : Pr) (i : Nat) [h : Con p (i + 1)] (hi : i < p.n) : Prop where
  P : ∀ j (hj : i < j ∧ j < p.n), pw (Tc h.valid hj) (p.o j).toNat = Timg h.valid (⟨p.w j, h.valid.w_in _ hj.2, (h.valid.w_zu _ hj.2).mono (by omega)⟩ : T p (i + 1))
  C : ∀ j k (hj : i < j ∧ j < p.n) (hk : i < k ∧ k < p.n) (hjk : j < k), cj (Tc h.valid hk) (Tc h.valid hj) = Timg h.valid (⟨p.c j k, h.valid.c_in _ _ hjk hk.2, (h.valid.c_zu _ _ hjk hk.2).mono (by omega)⟩ : T p (i + 1))
  F : Timg h.valid (Tw h.valid hi) = Tw h.valid hi
  I : ∀ j (hj : i + 1 ≤ j ∧ j < p.n), rep (p.o i).toNat (Timg h.valid) (gen h.valid (i + 1) j hj) = cj (gen h.valid (i + 1) j hj) (Tw h.valid hi)

theorem img_hom [h : Con p (i + 1)] {hi : i < p.n} (hc : Chk p i hi) (x y : T p (i + 1)) : Timg h.valid (x * y) = Timg h.valid x * Timg h.valid y := by
  have hcof : ∀ j (hj : i < j ∧ j < p.n), cOf p i j = Tc h.valid hj := fun j hj => dif_pos hj
  have hphi : ∀ (v : List Int) (j : Nat), InR p v → ZU j v → i + 1 ≤ j → j ≤ p.n → ∀ hin hzu, Timg h.valid (⟨v, hin, hzu⟩ : T p (i + 1)) = phi (cOf p i) v j (p.n - j) := by
    intro v j hv zv h1 h2 hin hzu
    rw [img_phi]
    obtain ⟨q, rfl⟩ : ∃ q, j = i + 1 + q := ⟨j - (i + 1), by omega⟩
    clear h1
    induction q with
    | zero => rfl
    | succ q ih =>
      rw [ih (zv.mono (by omega)) (by omega), show p.n - (i + 1 + q) = (p.n - (i + 1 + (q + 1))) + 1 by omega, phi]
      rw [zv (i + 1 + q) (by omega)]
      exact Grp.one_mul _
  rw [img_phi, img_phi, img_phi, T.mul_val]
  refine dyck (cOf p i) h.valid (i + 1) ?_ ?_ _ (i + 1) (Nat.le_refl _) rfl _ _ x.inr y.inr x.zu y.zu
  · intro j h1 h2
    rw [hcof j ⟨by omega, h2⟩, hc.P j ⟨by omega, h2⟩]
    exact hphi _ _ (h.valid.w_in _ h2) (h.valid.w_zu _ h2) (by omega) (by omega) _ _
  · intro j k h1 h2 h3
    rw [hcof j ⟨by omega, by omega⟩, hcof k ⟨by omega, h3⟩, hc.C j k ⟨by omega, by omega⟩ ⟨by omega, h3⟩ h2]
    exact hphi _ _ (h.valid.c_in _ _ h2 h3) (h.valid.c_zu _ _ h2 h3) (by omega) (by omega) _ _
end ext

/-! ### normal forms -/
section norm
variable {p : Pr} {i : Nat} (hv : Valid p)
include hv
theorem unit_at {l : Nat} (hil : i ≤ l) (hl : l < p.n) {k : Int} (h0 : 0 ≤ k) (h1 : k < p.o l) {u : List Int} (hu : InR p u) (zu : ZU (l + 1) u) : atv p i (unitv p l k) u = u.set l k := by
  have ho := hv.opos hl
  have hk := unitv_in hv (j := l) (k := k) h0 (fun _ => h1)
  rw [at_restrict' hv hil hk hu (unitv_zu p (Nat.le_refl _) k) (zu.mono (by omega)), atv_eq _ _ _ _ hl, zu l (by omega)]
  have e1 : (unitv p l k).getD l 0 = k := getD_set_eq _ _ _ (by rw [zeros_len]; exact hl)
  have hz : (zeros p.n).set l 0 = zeros p.n := by
    have := set_self (v := zeros p.n) (i := l) (by rw [zeros_len]; exact hl)
    rwa [zeros_getD] at this
  have e2 : (unitv p l k).set l 0 = zeros p.n := by unfold unitv; rw [set_set, hz]
  have e3 : u.set l 0 = u := by rw [← zu l (by omega)]; exact set_self (by rw [hu.len]; exact hl)
  rw [e1, if_neg (by omega), show (0 : Int).toNat = 0 from rfl, rep_zero, e2, e3, one_at hv _ _ rfl _ hu zu, Int.add_zero]
theorem unit_succ {l : Nat} (hil : i ≤ l) (hl : l < p.n) {k : Int} (h0 : 0 ≤ k) (h1 : k + 1 < p.o l) : atv p i (unitv p l k) (unitv p l 1) = unitv p l (k + 1) := by
  have ho := hv.opos hl
  have hk := unitv_in hv (j := l) (k := k) h0 (fun _ => by omega)
  have h1' := unitv_in hv (j := l) (k := 1) (by omega) (fun _ => by omega)
  rw [at_restrict' hv hil hk h1' (unitv_zu p (Nat.le_refl _) k) (unitv_zu p (Nat.le_refl _) 1), atv_eq _ _ _ _ hl]
  have e1 : ∀ k, (unitv p l k).getD l 0 = k := fun k => getD_set_eq _ _ _ (by rw [zeros_len]; exact hl)
  have hz : (zeros p.n).set l 0 = zeros p.n := by
    have := set_self (v := zeros p.n) (i := l) (by rw [zeros_len]; exact hl)
    rwa [zeros_getD] at this
  have e2 : ∀ k, (unitv p l k).set l 0 = zeros p.n := fun k => by unfold unitv; rw [set_set, hz]
  rw [e1, e1, if_neg (by omega), e2, e2, rep_id (img_zeros l), one_at hv _ _ rfl _ hv.zeros_in (zeros_zu _ _)]
  rfl
omit hv in
theorem gen_pw [h : Con p i] {l : Nat} (hl : i ≤ l ∧ l < p.n) : ∀ k : Nat, (k : Int) < p.o l → (pw (gen h.valid i l hl) k).v = unitv p l k
  | 0, _ => by
    show zeros p.n = (zeros p.n).set l 0
    have := set_self (v := zeros p.n) (i := l) (by rw [zeros_len]; exact hl.2)
    rw [zeros_getD] at this
    exact this.symm
  | k + 1, hk => by
    rw [pw_succ, T.mul_val, gen_pw hl k (by omega)]
    exact unit_succ h.valid hl.1 hl.2 (by omega) (by omega)
/-- The generators as a function on all numbers. -/
noncomputable def gOf (p : Pr) (i : Nat) [h : Con p i] (j : Nat) : T p i := open Classical in if hj : i ≤ j ∧ j < p.n then gen h.valid i j hj else 1
omit hv in
theorem norm_form [h : Con p i] : ∀ (m l : Nat), p.n - l = m → i ≤ l → l ≤ p.n → ∀ x : T p i, ZU l x.v → x = phi (gOf p i) x.v l m
  | 0, l, hm, _, _, x, zx => by
    apply T.ext
    show x.v = zeros p.n
    exact inr_ext x.inr h.valid.zeros_in fun k hk => by rw [zeros_getD, zx k (by omega)]
  | m + 1, l, hm, hil, hln, x, zx => by
    have hl : l < p.n := by omega
    have hxl := x.inr.rng l hl
    have ho := h.valid.opos hl
    let u : T p i := ⟨x.v.set l 0, x.inr.set (by omega) (fun _ => by omega), (zx.set0).mono (by omega)⟩
    have hu : ZU (l + 1) u.v := zx.set0
    have ih := norm_form m (l + 1) (by omega) (by omega) (by omega) u hu
    have hg : gOf p i l = gen h.valid i l ⟨hil, hl⟩ := dif_pos ⟨hil, hl⟩
    have e : phi (gOf p i) x.v (l + 1) m = phi (gOf p i) u.v (l + 1) m := phi_congr _ _ _ fun j hj => (getD_set_ne _ _ _ _ (by omega)).symm
    rw [phi, e, ← ih, hg]
    apply T.ext
    rw [T.mul_val, gen_pw ⟨hil, hl⟩ _ (by omega)]
    rw [unit_at h.valid hil hl (by omega) (by omega) u.inr hu]
    show x.v = (x.v.set l 0).set l _
    rw [set_set, show (((x.v.getD l 0).toNat : Nat) : Int) = x.v.getD l 0 by omega, set_self (by rw [x.inr.len]; exact hl)]
end norm
end Go.Pc

/-
  Plain mathematics: a level's conditions make the tail of one generator more a group.
  Conditions: none; nothing of the program stands here.
-/
namespace Go.Pc
open Grp

theorem rep_add {α : Type} (f : α → α) (x : α) (j : Nat) : ∀ k, rep (k + j) f x = rep k f (rep j f x)
  | 0 => by rw [Nat.zero_add]; rfl
  | k + 1 => by rw [Nat.add_right_comm, rep_succ, rep_add f x j k, rep_succ]

section
variable {p : Pr} {i : Nat}
/-- What stands behind the head. -/
def tl (hv : Valid p) (x : T p i) : T p (i + 1) := ⟨x.v.set i 0, x.inr.set (by omega) (fun h => by have := hv.opos h; omega), x.zu.set0⟩
def hd (x : T p i) : Int := x.v.getD i 0
theorem ht_ext (hv : Valid p) {x y : T p i} (h : hd x = hd y) (k : tl hv x = tl hv y) : x = y := by
  apply T.ext
  have hk : x.v.set i 0 = y.v.set i 0 := congrArg T.v k
  apply inr_ext x.inr y.inr
  intro j hj
  by_cases e : i = j
  · subst e; exact h
  · have := congrArg (fun l => l.getD j 0) hk
    simp only [getD_set_ne _ _ _ _ e] at this
    exact this
/-- The element with a head and a tail. -/
def mkT (x : T p (i + 1)) (a : Int) (h0 : 0 ≤ a) (h1 : i < p.n → a < p.o i) : T p i := ⟨x.v.set i a, x.inr.set h0 h1, (x.zu.mono (by omega)).set (Nat.le_refl _)⟩
theorem hd_mk (hi : i < p.n) (x : T p (i + 1)) (a : Int) (h0 : 0 ≤ a) (h1 : i < p.n → a < p.o i) : hd (mkT x a h0 h1) = a := getD_set_eq _ _ _ (by rw [x.inr.len]; exact hi)
theorem tl_mk (hv : Valid p) (hi : i < p.n) (x : T p (i + 1)) (a : Int) (h0 : 0 ≤ a) (h1 : i < p.n → a < p.o i) : tl hv (mkT x a h0 h1) = x := by
  apply T.ext
  show (x.v.set i a).set i 0 = x.v
  rw [set_set, ← x.zu i (by omega)]
  exact set_self (by rw [x.inr.len]; exact hi)

variable [h : Con p (i + 1)]
theorem tmul_eq (hi : i < p.n) (x y : T p i) (k : Nat) (hk : (k = 0 ∧ hd x + hd y < p.o i) ∨ (k = 1 ∧ p.o i ≤ hd x + hd y)) :
    hd (tmul h.valid x y) = hd x + hd y - k * p.o i ∧ tl h.valid (tmul h.valid x y) = pw (Tw h.valid hi) k * (rep (hd y).toNat (Timg h.valid) (tl h.valid x) * tl h.valid y) := by
  have hrep : ∀ q (u : T p (i + 1)), (rep q (Timg h.valid) u).v = rep q (img p i) u.v := by
    intro q u
    induction q with
    | zero => rfl
    | succ q ih => rw [rep_succ, rep_succ, ← ih]; rfl
  have hin := atv_in h.valid _ (i + 1) rfl _ _ (rep (hd y).toNat (Timg h.valid) (tl h.valid x)).inr (tl h.valid y).inr (rep (hd y).toNat (Timg h.valid) (tl h.valid x)).zu (tl h.valid y).zu
  rw [hrep] at hin
  have heq : (tmul h.valid x y).v = _ := atv_eq p i x.v y.v hi
  rcases hk with ⟨rfl, hk⟩ | ⟨rfl, hk⟩
  · rw [if_neg (by unfold hd at hk; omega)] at heq
    constructor
    · show (tmul h.valid x y).v.getD i 0 = _
      rw [heq]
      exact (getD_set_eq _ _ _ (Nat.lt_of_lt_of_eq hi hin.1.len.symm)).trans (by unfold hd; simp)
    · rw [pw_zero, Grp.one_mul]
      apply T.ext
      show (tmul h.valid x y).v.set i 0 = atv p (i + 1) (rep (hd y).toNat (Timg h.valid) (tl h.valid x)).v (tl h.valid y).v
      rw [heq, set_set, hrep]
      exact (congrArg (fun z => List.set _ i z) (hin.2 i (by omega)).symm).trans (set_self (Nat.lt_of_lt_of_eq hi hin.1.len.symm))
  · rw [if_pos (by unfold hd at hk; omega)] at heq
    have hW := atv_in h.valid _ (i + 1) rfl _ _ (h.valid.w_in i hi) hin.1 (h.valid.w_zu i hi) hin.2
    constructor
    · show (tmul h.valid x y).v.getD i 0 = _
      rw [heq]
      exact (getD_set_eq _ _ _ (Nat.lt_of_lt_of_eq hi hW.1.len.symm)).trans (by unfold hd; simp)
    · rw [pw_one]
      apply T.ext
      show (tmul h.valid x y).v.set i 0 = atv p (i + 1) (p.w i) (atv p (i + 1) (rep (hd y).toNat (Timg h.valid) (tl h.valid x)).v (tl h.valid y).v)
      rw [heq, set_set, hrep]
      exact (congrArg (fun z => List.set _ i z) (hW.2 i (by omega)).symm).trans (set_self (Nat.lt_of_lt_of_eq hi hW.1.len.symm))

theorem img_rep_hom {hi : i < p.n} (hc : Chk p i hi) (x y : T p (i + 1)) : ∀ q, rep q (Timg h.valid) (x * y) = rep q (Timg h.valid) x * rep q (Timg h.valid) y
  | 0 => rfl
  | q + 1 => by rw [rep_succ, img_rep_hom hc x y q, img_hom hc]; rfl
theorem img_one {hi : i < p.n} (hc : Chk p i hi) : Timg h.valid (1 : T p (i + 1)) = 1 := by
  have := img_hom hc (1 : T p (i + 1)) 1
  rw [Grp.one_mul] at this
  exact (Grp.mul_left_cancel (a := Timg h.valid 1) (by rw [Grp.mul_one]; exact this)).symm
theorem img_rep_one {hi : i < p.n} (hc : Chk p i hi) (q : Nat) : rep q (Timg h.valid) (1 : T p (i + 1)) = 1 := rep_id (img_one hc) q
theorem img_rep_w {hi : i < p.n} (hc : Chk p i hi) (q k : Nat) : rep q (Timg h.valid) (pw (Tw h.valid hi) k) = pw (Tw h.valid hi) k := by
  induction k with
  | zero => exact img_rep_one hc q
  | succ k ih => rw [pw_succ, img_rep_hom hc, ih, rep_id hc.F]

theorem hom_phi {K : Type} [Grp K] (f : T p (i + 1) → K) (hf : ∀ x y, f (x * y) = f x * f y) (c : Nat → T p (i + 1)) (x : List Int) : ∀ k l, f (phi c x l k) = phi (fun j => f (c j)) x l k := by
  have f1 : f 1 = 1 := Grp.mul_left_cancel (a := f 1) (by rw [← hf, Grp.one_mul, Grp.mul_one])
  have fp : ∀ a q, f (pw a q) = pw (f a) q := by
    intro a q
    induction q with
    | zero => exact f1
    | succ q ih => rw [pw_succ, hf, ih, pw_succ]
  intro k
  induction k with
  | zero => intro l; exact f1
  | succ k ih => intro l; rw [phi, hf, fp, ih, phi]
theorem Chk.all {hi : i < p.n} (hc : Chk p i hi) (x : T p (i + 1)) : rep (p.o i).toNat (Timg h.valid) x = cj x (Tw h.valid hi) := by
  have hx := norm_form (p := p) (i := i + 1) _ (i + 1) rfl (Nat.le_refl _) (by omega) x x.zu
  have e : (fun j => rep (p.o i).toNat (Timg h.valid) (gOf p (i + 1) j)) = fun j => cj (gOf p (i + 1) j) (Tw h.valid hi) := by
    funext j
    by_cases hj : i + 1 ≤ j ∧ j < p.n
    · have : gOf p (i + 1) j = gen h.valid (i + 1) j hj := dif_pos hj
      rw [this]; exact hc.I j hj
    · have : gOf p (i + 1) j = 1 := dif_neg hj
      rw [this, img_rep_one hc, cj_one]
  rw [hx, hom_phi (fun x => rep (p.o i).toNat (Timg h.valid) x) (fun x y => img_rep_hom hc x y _), e, ← hom_phi (fun x => cj x (Tw h.valid hi)) (fun x y => cj_mul x y _)]

/-- The level's conditions make the tail a group. -/
theorem con_step (hi : i < p.n) (hc : Chk p i hi) : Con p i where
  valid := h.valid
  assoc := by
    intro x y z
    have hx := x.inr.rng i hi
    have hy := y.inr.rng i hi
    have hz := z.inr.rng i hi
    have ex : ∀ a b : T p i, ∃ k : Nat, (k = 0 ∧ hd a + hd b < p.o i) ∨ (k = 1 ∧ p.o i ≤ hd a + hd b) := fun a b => by
      by_cases hab : p.o i ≤ hd a + hd b
      · exact ⟨1, .inr ⟨rfl, hab⟩⟩
      · exact ⟨0, .inl ⟨rfl, by omega⟩⟩
    obtain ⟨k1, hk1⟩ := ex x y
    obtain ⟨k2, hk2⟩ := ex (tmul h.valid x y) z
    obtain ⟨k3, hk3⟩ := ex y z
    obtain ⟨k4, hk4⟩ := ex x (tmul h.valid y z)
    have e1 := tmul_eq hi x y k1 hk1
    have e2 := tmul_eq hi (tmul h.valid x y) z k2 hk2
    have e3 := tmul_eq hi y z k3 hk3
    have e4 := tmul_eq hi x (tmul h.valid y z) k4 hk4
    have hd0 : hd x = x.v.getD i 0 := rfl
    have hd1 : hd y = y.v.getD i 0 := rfl
    have hd2 : hd z = z.v.getD i 0 := rfl
    have hkk : k1 + k2 = k3 + k4 := by
      rcases hk1 with ⟨rfl, a1⟩ | ⟨rfl, a1⟩ <;> rcases hk2 with ⟨rfl, a2⟩ | ⟨rfl, a2⟩ <;> rcases hk3 with ⟨rfl, a3⟩ | ⟨rfl, a3⟩ <;> rcases hk4 with ⟨rfl, a4⟩ | ⟨rfl, a4⟩ <;>
        rw [e1.1] at a2 <;> rw [e3.1] at a4 <;> omega
    apply ht_ext h.valid
    · rw [e2.1, e1.1, e4.1, e3.1]
      rcases hk1 with ⟨rfl, _⟩ | ⟨rfl, _⟩ <;> rcases hk2 with ⟨rfl, _⟩ | ⟨rfl, _⟩ <;> rcases hk3 with ⟨rfl, _⟩ | ⟨rfl, _⟩ <;> rcases hk4 with ⟨rfl, _⟩ | ⟨rfl, _⟩ <;> omega
    · rw [e2.2, e1.2, e4.2, e3.2, e3.1, img_rep_hom hc, img_rep_hom hc, img_rep_w hc, ← rep_add]
      rcases hk3 with ⟨rfl, a3⟩ | ⟨rfl, a3⟩
      · rw [show (hd y + hd z - (0 : Nat) * p.o i).toNat = (hd z).toNat + (hd y).toNat by omega, pw_zero, Grp.one_mul]
        have : k4 = k2 + k1 := by omega
        rw [this, pw_add]
        simp only [Grp.mul_assoc]
      · have hs : (hd z).toNat + (hd y).toNat = (p.o i).toNat + (hd y + hd z - (1 : Nat) * p.o i).toNat := by
          have := h.valid.opos hi; omega
        rw [hs, rep_add, hc.all, pw_one]
        generalize rep (hd y + hd z - ((1 : Nat) : Int) * p.o i).toNat (Timg h.valid) (tl h.valid x) = S
        rw [← Grp.mul_assoc (pw (Tw h.valid hi) k2), ← Grp.mul_assoc (pw (Tw h.valid hi) k2), ← pw_add]
        have : k2 + k1 = k4 + 1 := by omega
        rw [this, pw_succ, Grp.mul_assoc, Grp.mul_assoc, ← Grp.mul_assoc (Tw h.valid hi), ← Grp.mul_assoc (Tw h.valid hi), ← Grp.mul_assoc (Tw h.valid hi), mul_cj]
        simp only [Grp.mul_assoc]
  inv := by
    intro x
    have hx := x.inr.rng i hi
    have ho := h.valid.opos hi
    have hd0 : hd x = x.v.getD i 0 := rfl
    have fin : ∀ y : T p i, hd (tmul h.valid y x) = 0 → tl h.valid (tmul h.valid y x) = 1 → tmul h.valid y x = tone h.valid i := by
      intro y h1 h2
      refine ht_ext h.valid (h1.trans (zeros_getD _ _).symm) (h2.trans (T.ext ?_))
      show zeros p.n = (zeros p.n).set i 0
      have := set_self (v := zeros p.n) (i := i) (by rw [zeros_len]; exact hi)
      rw [zeros_getD] at this
      exact this.symm
    by_cases hz : hd x = 0
    · refine ⟨mkT (tl h.valid x)⁻¹ 0 (by omega) (fun _ => by omega), ?_⟩
      have e := tmul_eq hi (mkT (tl h.valid x)⁻¹ 0 (by omega) (fun _ => by omega)) x 0 (.inl ⟨rfl, by rw [hd_mk hi]; omega⟩)
      refine fin _ ?_ ?_
      · rw [e.1, hd_mk hi]; omega
      · rw [e.2, pw_zero, Grp.one_mul, tl_mk h.valid hi, hz]
        exact Grp.inv_mul _
    · let w := Tw h.valid hi
      let v := rep (p.o i - hd x).toNat (Timg h.valid) ((tl h.valid x)⁻¹ * w⁻¹)
      refine ⟨mkT v (p.o i - hd x) (by omega) (fun _ => by omega), ?_⟩
      have e := tmul_eq hi (mkT v (p.o i - hd x) (by omega) (fun _ => by omega)) x 1 (.inr ⟨rfl, by rw [hd_mk hi]; omega⟩)
      refine fin _ ?_ ?_
      · rw [e.1, hd_mk hi]; omega
      · rw [e.2, pw_one, tl_mk h.valid hi]
        show w * (rep (hd x).toNat (Timg h.valid) v * tl h.valid x) = 1
        have : rep (hd x).toNat (Timg h.valid) v = rep (p.o i).toNat (Timg h.valid) ((tl h.valid x)⁻¹ * w⁻¹) := by
          show rep _ _ (rep _ _ _) = _
          rw [← rep_add, show (hd x).toNat + (p.o i - hd x).toNat = (p.o i).toNat by omega]
        rw [this, hc.all, ← Grp.mul_assoc, mul_cj]
        rw [Grp.inv_mul_cancel_right, Grp.inv_mul]
end
theorem con_end {p : Pr} (hv : Valid p) {i : Nat} (hi : p.n ≤ i) : Con p i where
  valid := hv
  assoc := by
    intro a b c
    apply T.ext
    show atv p i _ _ = atv p i _ _
    rw [atv_end _ _ _ _ hi, atv_end _ _ _ _ hi]
  inv := fun a => ⟨a, T.ext (atv_end _ _ _ _ hi)⟩
end Go.Pc

/-
  The coordinates of products in the group of a consistent presentation.
  Conditions: the tails at all levels are groups; nothing of the program stands here.
-/
namespace Go.Pc
open Grp
/-- The tails at all levels are groups. -/
class ConAll (p : Pr) : Prop where
  con : ∀ i, Con p i
instance {p : Pr} [h : ConAll p] (i : Nat) : Con p i := h.con i
theorem ConAll.valid {p : Pr} (h : ConAll p) : Valid p := (h.con 0).valid
/-- The elements of the group. -/
abbrev El (p : Pr) := T p 0
/-- A coordinate. -/
def co {p : Pr} (x : El p) (d : Nat) : Int := x.v.getD d 0
/-- The first d coordinates are zero. -/
def Tl {p : Pr} (d : Nat) (x : El p) : Prop := ZU d x.v
theorem atv_lead {p : Pr} {i : Nat} (hi : i < p.n) {a b : List Int} (hv : Valid p) (ha : InR p a) (hb : InR p b) (za : ZU i a) (zb : ZU i b) : (atv p i a b).getD i 0 = (a.getD i 0 + b.getD i 0) % p.o i := by
  have hl := (atv_in hv _ i rfl _ _ ha hb za zb).1.len
  have ra := ha.rng i hi
  have rb := hb.rng i hi
  have e := atv_eq p i a b hi
  split at e
  · rename_i h
    rw [e] at hl ⊢
    rw [List.length_set] at hl
    rw [getD_set_eq _ _ _ (by omega)]
    rw [show a.getD i 0 + b.getD i 0 = (a.getD i 0 + b.getD i 0 - p.o i) + p.o i by omega, Int.add_emod_right, Int.emod_eq_of_lt (by omega) (by omega)]
    omega
  · rename_i h
    rw [e] at hl ⊢
    rw [List.length_set] at hl
    rw [getD_set_eq _ _ _ (by omega), Int.emod_eq_of_lt (by omega) (by omega)]
theorem atv_skip {p : Pr} {i : Nat} (hi : i < p.n) {a b : List Int} (ha : InR p a) (zb : ZU (i + 1) b) : atv p i a b = (atv p (i + 1) (a.set i 0) b).set i (a.getD i 0) := by
  have ra := ha.rng i hi
  have hb0 : b.getD i 0 = 0 := zb i (by omega)
  have hbs : b.set i 0 = b := by
    by_cases hl : i < b.length
    · have := set_self (v := b) (i := i) hl
      rw [hb0] at this; exact this
    · exact List.set_eq_of_length_le (by omega)
  rw [atv_eq _ _ _ _ hi, hb0, if_neg (by omega), hbs]
  simp [rep_zero]
theorem atv_low {p : Pr} (hv : Valid p) {d : Nat} (hd : d < p.n) : ∀ (m i : Nat), d - i = m → i ≤ d → ∀ a b, InR p a → InR p b → ZU i a → ZU d b →
    (∀ k, k < d → (atv p i a b).getD k 0 = a.getD k 0) ∧ (atv p i a b).getD d 0 = (a.getD d 0 + b.getD d 0) % p.o d
  | 0, i, hm, hid, a, b, ha, hb, za, zb => by
    obtain rfl : i = d := by omega
    refine ⟨fun k hk => ?_, atv_lead hd hv ha hb za zb⟩
    rw [za k hk, (atv_in hv _ i rfl _ _ ha hb za zb).2 k hk]
  | m + 1, i, hm, hid, a, b, ha, hb, za, zb => by
    have hi : i < p.n := by omega
    have h0 : InR p (a.set i 0) := ha.set (by omega) (fun h => by have := hv.opos h; omega)
    have ih := atv_low hv hd m (i + 1) (by omega) (by omega) (a.set i 0) b h0 hb za.set0 zb
    have hl := (atv_in hv _ (i + 1) rfl _ _ h0 hb za.set0 (zb.mono (by omega))).1.len
    rw [atv_skip hi ha (zb.mono (by omega))]
    refine ⟨fun k hk => ?_, ?_⟩
    · by_cases e : i = k
      · subst e; rw [getD_set_eq _ _ _ (by omega)]
      · rw [getD_set_ne _ _ _ _ e, ih.1 k hk, getD_set_ne _ _ _ _ e]
    · rw [getD_set_ne _ _ _ _ (by omega), ih.2, getD_set_ne _ _ _ _ (by omega)]
section
variable {p : Pr} [hc : ConAll p] {d : Nat}
theorem co_rng (x : El p) (hd : d < p.n) : 0 ≤ co x d ∧ co x d < p.o d := x.inr.rng d hd
theorem co_low (x : El p) {y : El p} (hd : d < p.n) (hy : Tl d y) {k : Nat} (hk : k < d) : co (x * y) k = co x k :=
  (atv_low hc.valid hd _ 0 rfl (Nat.zero_le _) _ _ x.inr y.inr x.zu hy).1 k hk
theorem co_at (x : El p) {y : El p} (hd : d < p.n) (hy : Tl d y) : co (x * y) d = (co x d + co y d) % p.o d :=
  (atv_low hc.valid hd _ 0 rfl (Nat.zero_le _) _ _ x.inr y.inr x.zu hy).2
theorem Tl.zero (x : El p) : Tl 0 x := x.zu
theorem Tl.mono {x : El p} {e : Nat} (h : Tl d x) (he : e ≤ d) : Tl e x := ZU.mono h he
theorem Tl.succ {x : El p} (h : Tl d x) (h0 : co x d = 0) : Tl (d + 1) x := fun k hk => by
  by_cases e : k = d
  · subst e; exact h0
  · exact h k (by omega)
theorem Tl.one (d : Nat) : Tl d (1 : El p) := zeros_zu _ _
theorem co_one (d : Nat) : co (1 : El p) d = 0 := zeros_getD _ _
theorem el_ext {x y : El p} (h : ∀ d, d < p.n → co x d = co y d) : x = y := T.ext (inr_ext x.inr y.inr h)
theorem Tl.end_ {x : El p} (h : Tl p.n x) : x = 1 := el_ext fun d hd => by rw [co_one]; exact h d hd
theorem Tl.mul {x y : El p} (hd : d ≤ p.n) (hx : Tl d x) (hy : Tl d y) : Tl d (x * y) := by
  by_cases e : d = p.n
  · subst e; rw [hy.end_, mul_one]; exact hx
  · intro k hk
    have := co_low x (by omega) hy hk
    exact this.trans (hx k hk)
theorem Tl.inv {x : El p} (hx : Tl d x) : Tl d x⁻¹ := by
  let x' : T p d := ⟨x.v, x.inr, hx⟩
  let y' : T p d := x'⁻¹
  let y : El p := ⟨y'.v, y'.inr, fun k hk => by omega⟩
  have h1 : y' * x' = 1 := inv_mul x'
  have h2 : y * x = 1 := by
    apply T.ext
    have h3 : atv p d y'.v x.v = zeros p.n := congrArg T.v h1
    show atv p 0 y'.v x.v = zeros p.n
    rw [at_restrict' hc.valid (Nat.zero_le d) y'.inr x.inr y'.zu hx, h3]
  rw [← eq_inv_of_mul h2]
  exact y'.zu
theorem Tl.pw {x : El p} (hd : d ≤ p.n) (hx : Tl d x) : ∀ k, Tl d (pw x k)
  | 0 => Tl.one d
  | k + 1 => Tl.mul hd (Tl.pw hd hx k) hx
theorem co_pw {x : El p} (hd : d < p.n) (hx : Tl d x) : ∀ k : Nat, co (pw x k) d = (k * co x d) % p.o d
  | 0 => by rw [pw_zero, co_one]; simp
  | k + 1 => by
    rw [pw_succ, co_at _ hd hx, co_pw hd hx k, Int.emod_add_emod]
    congr 1
    rw [Int.natCast_succ, Int.add_mul, Int.one_mul]
theorem co_inv {x : El p} (hd : d < p.n) (hx : Tl d x) : (co x⁻¹ d + co x d) % p.o d = 0 := by
  rw [← co_at _ hd hx, inv_mul, co_one]
theorem Tl.cm {x y : El p} (hd : d < p.n) (hx : Tl d x) (hy : Tl d y) : Tl (d + 1) (cm x y) := by
  have h1 : Tl d (x * y) := hx.mul (by omega) hy
  have h2 : Tl d (y * x) := hy.mul (by omega) hx
  rw [cm_eq]
  refine Tl.succ (Tl.mul (by omega) h2.inv h1) ?_
  rw [co_at _ hd h1, co_at _ hd hy, Int.add_comm (co x d), ← co_at _ hd hx]
  exact co_inv hd h2
theorem Tl.cj {x y : El p} (hd : d < p.n) (hx : Tl (d + 1) x) (hy : Tl d y) : Tl (d + 1) (Grp.cj x y) := by
  have h : Grp.cj x y = x * Grp.cm x y := by unfold Grp.cm; rw [mul_inv_cancel_left]
  rw [h]
  exact hx.mul (by omega) (Tl.cm hd (hx.mono (by omega)) hy)
end
end Go.Pc

/-
  Subgroups and their tables: a table whose powers and commutators reduce to the identity gives a subgroup; canonical sequences are unique.
  Conditions: the tails at all levels are groups; nothing of the program stands here.
-/
namespace Go.Pc
open Grp
/-- A subgroup, as a set. -/
structure Sub {G : Type} [Grp G] (H : G → Prop) : Prop where
  one : H 1
  mul : ∀ a b, H a → H b → H (a * b)
  inv : ∀ a, H a → H a⁻¹
/-- The subgroup that a set generates. -/
inductive Gen {G : Type} [Grp G] (S : G → Prop) : G → Prop
  | of (a : G) : S a → Gen S a
  | one : Gen S 1
  | mul (a b : G) : Gen S a → Gen S b → Gen S (a * b)
  | inv (a : G) : Gen S a → Gen S a⁻¹
theorem Gen.sub {G : Type} [Grp G] (S : G → Prop) : Sub (Gen S) := ⟨.one, fun _ _ => .mul _ _, fun _ => .inv _⟩
theorem Gen.le {G : Type} [Grp G] {S H : G → Prop} (hH : Sub H) (h : ∀ a, S a → H a) : ∀ a, Gen S a → H a := by
  intro a ha
  induction ha with
  | of a h' => exact h a h'
  | one => exact hH.one
  | mul a b _ _ ih1 ih2 => exact hH.mul _ _ ih1 ih2
  | inv a _ ih => exact hH.inv _ ih
section
variable {G : Type} [Grp G] {H : G → Prop}
theorem Sub.pw (hH : Sub H) {a : G} (h : H a) : ∀ k, H (pw a k)
  | 0 => hH.one
  | k + 1 => hH.mul _ _ (Sub.pw hH h k) h
theorem Sub.pwz (hH : Sub H) {a : G} (h : H a) (k : Int) : H (pwz a k) := by
  unfold Grp.pwz
  split
  · exact hH.pw (hH.inv _ h) _
  · exact hH.pw h _
theorem Sub.left (hH : Sub H) {a b : G} (ha : H a) : H (a * b) ↔ H b :=
  ⟨fun h => by have := hH.mul _ _ (hH.inv _ ha) h; rwa [inv_mul_cancel_left] at this, hH.mul _ _ ha⟩
theorem Sub.right (hH : Sub H) {a b : G} (hb : H b) : H (a * b) ↔ H a :=
  ⟨fun h => by have := hH.mul _ _ h (hH.inv _ hb); rwa [mul_inv_cancel_right] at this, fun h => hH.mul _ _ h hb⟩
theorem Sub.cm (hH : Sub H) {a b : G} (ha : H a) (hb : H b) : H (Grp.cm a b) := by
  rw [cm_eq]; exact hH.mul _ _ (hH.inv _ (hH.mul _ _ hb ha)) (hH.mul _ _ ha hb)
theorem cm_inv (a b : G) : (Grp.cm a b)⁻¹ = Grp.cm b a := by rw [cm_eq, cm_eq, mul_inv_rev, inv_inv]
end
section
variable {p : Pr} [hc : ConAll p]
/-- A table: for each depth at most one element, with the leading exponent 1. -/
abbrev Tab (p : Pr) := Nat → Option (El p)
structure TabOk (t : Tab p) : Prop where
  lt : ∀ d y, t d = some y → d < p.n
  tl : ∀ d y, t d = some y → Tl d y
  lead : ∀ d y, t d = some y → co y d = 1
/-- x is brought to the identity by entries of the table. -/
inductive Red (t : Tab p) : El p → Prop
  | one : Red t 1
  | right (d : Nat) (y x : El p) (k : Int) : t d = some y → Tl d x → co x d ≠ 0 → Tl (d + 1) (x * pwz y k) → Red t (x * pwz y k) → Red t x
  | left (d : Nat) (y x : El p) (k : Int) : t d = some y → Tl d x → co x d ≠ 0 → Tl (d + 1) (pwz y k * x) → Red t (pwz y k * x) → Red t x
def Ents (t : Tab p) (x : El p) : Prop := ∃ d, t d = some x
/-- t' has all entries of t. -/
def Above (t t' : Tab p) : Prop := ∀ d y, t d = some y → t' d = some y
theorem Above.refl (t : Tab p) : Above t t := fun _ _ h => h
theorem Above.trans {t t' t'' : Tab p} (h : Above t t') (h' : Above t' t'') : Above t t'' := fun d y e => h' d y (h d y e)
theorem Red.gen {t : Tab p} {x : El p} (h : Red t x) : Gen (Ents t) x := by
  induction h with
  | one => exact .one
  | right d y x k e _ _ _ _ ih => exact ((Gen.sub _).right ((Gen.sub _).pwz (.of _ ⟨d, e⟩) k)).1 ih
  | left d y x k e _ _ _ _ ih => exact ((Gen.sub _).left ((Gen.sub _).pwz (.of _ ⟨d, e⟩) k)).1 ih
theorem Red.above {t t' : Tab p} (ha : Above t t') {x : El p} (h : Red t x) : Red t' x := by
  induction h with
  | one => exact .one
  | right d y x k e h1 h2 h3 _ ih => exact .right d y x k (ha _ _ e) h1 h2 h3 ih
  | left d y x k e h1 h2 h3 _ ih => exact .left d y x k (ha _ _ e) h1 h2 h3 ih
theorem depth_le {x : El p} {d e : Nat} (h : Tl d x) (h0 : co x e ≠ 0) : d ≤ e := by
  by_cases hd : d ≤ e
  · exact hd
  · exact absurd (h e (by omega)) h0
/-- The conditions on a full table. -/
structure Full (t : Tab p) : Prop where
  ok : TabOk t
  ptop : ∀ d y, t d = some y → Red t (Grp.pw y (p.o d).toNat)
  pcm : ∀ d e y z, t d = some y → t e = some z → d < e → Red t (Grp.cm y z) ∨ Red t (Grp.cm z y)
def Nat_ (t : Tab p) (d : Nat) (x : El p) : Prop := Red t x ∧ Tl d x
variable {t : Tab p}
theorem Full.top (hf : Full t) {d : Nat} {y : El p} (h : t d = some y) : Tl (d + 1) (pw y (p.o d).toNat) := by
  have hd := hf.ok.lt d y h
  have ho := hc.valid.opos hd
  refine (Tl.pw (by omega) (hf.ok.tl d y h) _).succ ?_
  rw [co_pw hd (hf.ok.tl d y h), hf.ok.lead d y h, Int.toNat_of_nonneg (by omega)]
  simp
theorem Full.entry (hf : Full t) {d : Nat} {y : El p} (h : t d = some y) : Red t y := by
  have hd := hf.ok.lt d y h
  have ho := hc.valid.opos hd
  have e : y * pw y ((p.o d).toNat - 1) = pw y (p.o d).toNat := by
    rw [← pw_succ', show (p.o d).toNat - 1 + 1 = (p.o d).toNat by omega]
  refine .right d y y (((p.o d).toNat - 1 : Nat) : Int) h (hf.ok.tl d y h) (by rw [hf.ok.lead d y h]; omega) ?_ ?_
  · rw [pwz_nat, e]; exact hf.top h
  · rw [pwz_nat, e]; exact hf.ptop d y h
theorem Full.norm (hf : Full t) {d : Nat} (hd : d < p.n) (hs : Sub (Nat_ t (d + 1))) {y : El p} (h : t d = some y) : ∀ n, Nat_ t (d + 1) n → Nat_ t (d + 1) (cj n y) := by
  rintro n ⟨hr, ht⟩
  have hy := hf.ok.tl d y h
  have hK : Sub fun n => Nat_ t (d + 1) (cj n y) := by
    refine ⟨?_, fun a b ha hb => ?_, fun a ha => ?_⟩
    · rw [cj_one]; exact hs.one
    · rw [cj_mul]; exact hs.mul _ _ ha hb
    · rw [cj_inv]; exact hs.inv _ ha
  have hz : ∀ e z, d < e → t e = some z → Nat_ t (d + 1) (cj z y) := by
    intro e z hde hz
    have hez := hf.ok.tl e z hz
    have hN : Nat_ t (d + 1) z := ⟨hf.entry hz, hez.mono hde⟩
    have hcm : Nat_ t (d + 1) (cm z y) := by
      rcases hf.pcm d e y z h hz hde with h1 | h1
      · rw [← cm_inv]
        exact hs.inv _ ⟨h1, Tl.cm hd hy (hez.mono (by omega))⟩
      · exact ⟨h1, Tl.cm hd (hez.mono (by omega)) hy⟩
    have e1 : cj z y = z * cm z y := by unfold Grp.cm; rw [mul_inv_cancel_left]
    rw [e1]
    exact hs.mul _ _ hN hcm
  induction hr with
  | one => exact hK.one
  | right e z x k hz' h1 h2 h3 _ ih =>
    have hle := depth_le ht h2
    exact (hK.right (hK.pwz (hz e z hle hz') k)).1 (ih (h3.mono (by omega)))
  | left e z x k hz' h1 h2 h3 _ ih =>
    have hle := depth_le ht h2
    exact (hK.left (hK.pwz (hz e z hle hz') k)).1 (ih (h3.mono (by omega)))
theorem Full.norm_pw (hf : Full t) {d : Nat} (hd : d < p.n) (hs : Sub (Nat_ t (d + 1))) {y : El p} (h : t d = some y) (n : El p) (hn : Nat_ t (d + 1) n) : ∀ k, Nat_ t (d + 1) (cj n (pw y k))
  | 0 => by rw [pw_zero, cj_by_one]; exact hn
  | k + 1 => by rw [pw_succ, ← cj_cj]; exact hf.norm hd hs h _ (hf.norm_pw hd hs h n hn k)
theorem Red.inv_at {x : El p} (h : Red t x) {d : Nat} (hd : Tl d x) (h0 : co x d ≠ 0) : ∃ y k, t d = some y ∧ ((Tl (d + 1) (x * pwz y k) ∧ Red t (x * pwz y k)) ∨ (Tl (d + 1) (pwz y k * x) ∧ Red t (pwz y k * x))) := by
  cases h with
  | one => exact absurd (co_one d) h0
  | right e y x k h1 h2 h3 h4 h5 =>
    obtain rfl : d = e := Nat.le_antisymm (depth_le hd h3) (depth_le h2 h0)
    exact ⟨y, k, h1, .inl ⟨h4, h5⟩⟩
  | left e y x k h1 h2 h3 h4 h5 =>
    obtain rfl : d = e := Nat.le_antisymm (depth_le hd h3) (depth_le h2 h0)
    exact ⟨y, k, h1, .inr ⟨h4, h5⟩⟩
theorem Full.sub (hf : Full t) : ∀ m d, p.n - d = m → d ≤ p.n → Sub (Nat_ t d)
  | 0, d, hm, hd => by
    obtain rfl : d = p.n := by omega
    refine ⟨⟨.one, Tl.one _⟩, fun a b ha hb => ?_, fun a ha => ?_⟩
    · rw [hb.2.end_, mul_one]; exact ha
    · have := ha.2.end_
      subst this
      rw [inv_one]; exact ha
  | m + 1, d, hm, hd => by
    have hdn : d < p.n := by omega
    have hs := hf.sub m (d + 1) (by omega) (by omega)
    have hup : ∀ x, Nat_ t d x → co x d = 0 → Nat_ t (d + 1) x := fun x hx h0 => ⟨hx.1, hx.2.succ h0⟩
    have hdn' : ∀ x, Nat_ t (d + 1) x → Nat_ t d x := fun x hx => ⟨hx.1, hx.2.mono (by omega)⟩
    cases ht : t d with
    | none =>
      have key : ∀ x, Nat_ t d x ↔ Nat_ t (d + 1) x := by
        intro x
        refine ⟨fun hx => ?_, hdn' x⟩
        by_cases h0 : co x d = 0
        · exact hup x hx h0
        · obtain ⟨y, k, h1, _⟩ := hx.1.inv_at hx.2 h0
          rw [ht] at h1; cases h1
      refine ⟨(key _).2 hs.one, fun a b ha hb => (key _).2 (hs.mul _ _ ((key _).1 ha) ((key _).1 hb)), fun a ha => (key _).2 (hs.inv _ ((key _).1 ha))⟩
    | some y =>
      have hy := hf.ok.tl d y ht
      have ho := hc.valid.opos hdn
      have htop : Nat_ t (d + 1) (pw y (p.o d).toNat) := ⟨hf.ptop d y ht, hf.top ht⟩
      have key : ∀ x, Nat_ t d x ↔ Tl d x ∧ ∃ k, Nat_ t (d + 1) (x * pw y k) := by
        intro x
        constructor
        · intro hx
          refine ⟨hx.2, ?_⟩
          by_cases h0 : co x d = 0
          · exact ⟨0, by rw [pw_zero, mul_one]; exact hup x hx h0⟩
          · obtain ⟨y', k, h1, h2⟩ := hx.1.inv_at hx.2 h0
            obtain rfl : y = y' := by rw [ht] at h1; exact Option.some.inj h1
            obtain ⟨j, m', e1, e2⟩ := pwz_top y (p.o d).toNat (by omega) k
            rcases h2 with h2 | h2
            · refine ⟨j, ?_⟩
              rw [e1, ← mul_assoc]
              exact hs.mul _ _ ⟨h2.2, h2.1⟩ (hs.pw htop m')
            · refine ⟨j, ?_⟩
              have h3 := hs.mul _ _ (hs.pw htop m') ⟨h2.2, h2.1⟩
              rw [← mul_assoc, ← e2] at h3
              have := hf.norm_pw hdn hs ht _ h3 j
              unfold cj at this
              rwa [mul_assoc, inv_mul_cancel_left] at this
        · rintro ⟨hx, k, hk⟩
          by_cases h0 : co x d = 0
          · have hk0 : (k : Int) % p.o d = 0 := by
              have := co_at x hdn (Tl.pw (by omega) hy k)
              rw [h0, co_pw hdn hy, hf.ok.lead d y ht, Int.mul_one, Int.zero_add, Int.emod_emod] at this
              rw [← this]
              exact hk.2 d (by omega)
            obtain ⟨j, hj⟩ : ∃ j : Nat, k = (p.o d).toNat * j := by
              refine ⟨(k / (p.o d)).toNat, ?_⟩
              have h1 := Int.mul_ediv_add_emod k (p.o d)
              rw [hk0, Int.add_zero] at h1
              have h2 : (0 : Int) ≤ k / p.o d := Int.ediv_nonneg (by omega) (by omega)
              apply Int.ofNat.inj
              show (k : Int) = ((p.o d).toNat * ((k : Int) / p.o d).toNat : Nat)
              rw [Int.natCast_mul, Int.toNat_of_nonneg h2, Int.toNat_of_nonneg (by omega), h1]
            rw [hj, pw_mul] at hk
            exact hdn' x ((hs.right (hs.pw htop j)).1 hk)
          · exact ⟨.right d y x (k : Int) ht hx h0 (by rw [pwz_nat]; exact hk.2) (by rw [pwz_nat]; exact hk.1), hx⟩
      refine ⟨(key _).2 ⟨Tl.one _, 0, by rw [pw_zero, mul_one]; exact hs.one⟩, fun a b ha hb => ?_, fun a ha => ?_⟩
      · obtain ⟨ha1, k, ha2⟩ := (key _).1 ha
        obtain ⟨hb1, l, hb2⟩ := (key _).1 hb
        refine (key _).2 ⟨ha1.mul (by omega) hb1, l + k, ?_⟩
        have h := hs.mul _ _ ha2 (hf.norm_pw hdn hs ht _ hb2 k)
        unfold cj at h
        rw [mul_assoc a, mul_inv_cancel_left, mul_assoc b, ← pw_add, ← mul_assoc] at h
        exact h
      · obtain ⟨ha1, k, ha2⟩ := (key _).1 ha
        refine (key _).2 ⟨ha1.inv, k * ((p.o d).toNat - 1), ?_⟩
        have h1 := hf.norm_pw hdn hs ht _ (hs.inv _ ha2) (k * ((p.o d).toNat - 1))
        have h2 : pw y k * pw y (k * ((p.o d).toNat - 1)) = pw (pw y (p.o d).toNat) k := by
          rw [← pw_add, ← pw_mul]
          congr 1
          obtain ⟨q, hq⟩ : ∃ q, (p.o d).toNat = q + 1 := ⟨(p.o d).toNat - 1, by omega⟩
          rw [hq, Nat.add_sub_cancel, Nat.add_mul, Nat.one_mul, Nat.mul_comm k q, Nat.add_comm]
        have h3 := hs.mul _ _ (hs.pw htop k) h1
        rw [← h2] at h3
        unfold cj at h3
        rw [mul_inv_rev, mul_assoc (pw y k), mul_inv_cancel_left, mul_assoc (pw y k)⁻¹, mul_inv_cancel_left] at h3
        exact h3
/-- The subgroup of a full table. -/
theorem Full.red_iff (hf : Full t) (x : El p) : Red t x ↔ Gen (Ents t) x := by
  refine ⟨Red.gen, fun h => ?_⟩
  have hs : Sub (Nat_ t 0) := hf.sub _ 0 rfl (Nat.zero_le _)
  exact (Gen.le hs (fun a ha => by obtain ⟨d, hd⟩ := ha; exact ⟨hf.entry hd, Tl.zero _⟩) x h).1
theorem Full.some_of (hf : Full t) {x : El p} (hx : Gen (Ents t) x) {d : Nat} (hd : Tl d x) (h0 : co x d ≠ 0) : ∃ y, t d = some y := by
  obtain ⟨y, _, h, _⟩ := ((hf.red_iff x).2 hx).inv_at hd h0
  exact ⟨y, h⟩

/-! ### canonical sequences -/
/-- Some element of H has the depth d. -/
def Dep (H : El p → Prop) (d : Nat) : Prop := ∃ h, H h ∧ Tl d h ∧ co h d ≠ 0
/-- The element of the canonical sequence at a depth. -/
structure CanAt (H : El p → Prop) (d : Nat) (x : El p) : Prop where
  mem : H x
  tl : Tl d x
  lead : co x d = 1
  zero : ∀ e, Dep H e → e ≠ d → co x e = 0
/-- Two elements that differ by an element of H and are zero at all depths of H are the same (but for some depths at which they agree anyhow). -/
theorem depth_ex {h : El p} (hn : h ≠ 1) : ∃ d, d < p.n ∧ Tl d h ∧ co h d ≠ 0 := by
  have key : ∀ m d, p.n - d = m → d ≤ p.n → Tl d h → ∃ d, d < p.n ∧ Tl d h ∧ co h d ≠ 0 := by
    intro m
    induction m with
    | zero => intro d hm hd ht; exact absurd (Tl.end_ (by obtain rfl : d = p.n := by omega
                                                          exact ht)) hn
    | succ m ih =>
      intro d hm hd ht
      by_cases h0 : co h d = 0
      · exact ih (d + 1) (by omega) (by omega) (ht.succ h0)
      · exact ⟨d, by omega, ht, h0⟩
  exact key _ 0 rfl (Nat.zero_le _) (Tl.zero _)
theorem rep_unique {H : El p → Prop} (hH : Sub H) {x y : El p} (h : H (x⁻¹ * y)) (hz : ∀ d, Dep H d → co x d = co y d) : x = y := by
  by_cases e : x⁻¹ * y = 1
  · have := congrArg (x * ·) e
    simp only [mul_inv_cancel_left, mul_one] at this
    exact this.symm
  · exfalso
    obtain ⟨d, hd, h1, h2⟩ := depth_ex e
    have h3 := hz d ⟨_, h, h1, h2⟩
    have h4 := co_at x hd h1
    rw [mul_inv_cancel_left, ← h3] at h4
    have rx := co_rng x hd
    have rh := co_rng (x⁻¹ * y) hd
    by_cases hlt : co x d + co (x⁻¹ * y) d < p.o d
    · rw [Int.emod_eq_of_lt (by omega) hlt] at h4; omega
    · rw [show co x d + co (x⁻¹ * y) d = (co x d + co (x⁻¹ * y) d - p.o d) + p.o d by omega, Int.add_emod_right, Int.emod_eq_of_lt (by omega) (by omega)] at h4
      omega
theorem CanAt.unique {H : El p → Prop} (hH : Sub H) {d : Nat} {x y : El p} (hx : CanAt H d x) (hy : CanAt H d y) : x = y := by
  refine rep_unique hH (hH.mul _ _ (hH.inv _ hx.mem) hy.mem) fun e he => ?_
  by_cases hed : e = d
  · subst hed; rw [hx.lead, hy.lead]
  · rw [hx.zero e he hed, hy.zero e he hed]
end
end Go.Pc

/-
  The work loop of subgroups: a table that is filled until no element is left gives the subgroup that the first elements generate; the canonical list.
  Conditions: the tails at all levels are groups; nothing of the program stands here.
-/
namespace Go.Pc
open Grp
section
variable {p : Pr} [hc : ConAll p]
theorem CanAt.dep {H : El p → Prop} {d : Nat} {x : El p} (h : CanAt H d x) : Dep H d := ⟨x, h.mem, h.tl, by rw [h.lead]; omega⟩
open Classical in
noncomputable def canF (H : El p → Prop) (d : Nat) : Option (List Int) := if h : ∃ x, CanAt H d x then some (Classical.choose h).v else none
/-- The canonical sequence of a subgroup. -/
noncomputable def canon (H : El p → Prop) : List (List Int) := (List.range p.n).filterMap (canF H)
/-- x is brought to r by entries of the table. -/
inductive Stp (t : Tab p) : El p → El p → Prop
  | refl (x : El p) : Stp t x x
  | right (d : Nat) (y x r : El p) (k : Int) : t d = some y → Tl d x → co x d ≠ 0 → Tl (d + 1) (x * pwz y k) → Stp t (x * pwz y k) r → Stp t x r
  | left (d : Nat) (y x r : El p) (k : Int) : t d = some y → Tl d x → co x d ≠ 0 → Tl (d + 1) (pwz y k * x) → Stp t (pwz y k * x) r → Stp t x r
theorem Stp.red {t t' : Tab p} (ha : Above t t') {x r : El p} (h : Stp t x r) (hr : Red t' r) : Red t' x := by
  induction h with
  | refl x => exact hr
  | right d y x r k e h1 h2 h3 _ ih => exact .right d y x k (ha _ _ e) h1 h2 h3 (ih hr)
  | left d y x r k e h1 h2 h3 _ ih => exact .left d y x k (ha _ _ e) h1 h2 h3 (ih hr)
theorem Stp.trans {t : Tab p} {x r s : El p} (h : Stp t x r) (h' : Stp t r s) : Stp t x s := by
  induction h with
  | refl x => exact h'
  | right d y x r k e h1 h2 h3 _ ih => exact .right d y x s k e h1 h2 h3 (ih h')
  | left d y x r k e h1 h2 h3 _ ih => exact .left d y x s k e h1 h2 h3 (ih h')
theorem Stp.mem {t : Tab p} {H : El p → Prop} (hH : Sub H) (ht : ∀ d y, t d = some y → H y) {x r : El p} (h : Stp t x r) (hx : H x) : H r := by
  induction h with
  | refl x => exact hx
  | right d y x r k e _ _ _ _ ih => exact ih (hH.mul _ _ hx (hH.pwz (ht d y e) k))
  | left d y x r k e _ _ _ _ ih => exact ih (hH.mul _ _ (hH.pwz (ht d y e) k) hx)
/-- x will be brought to the identity as soon as the waiting elements are. -/
def Cov (t : Tab p) (W : El p → Prop) (x : El p) : Prop := ∃ r, (r = 1 ∨ W r) ∧ ∀ t', Above t t' → Red t' r → Red t' x
/-- The state of the work: S the elements given, t the table, W the elements that wait. -/
structure Wk (S : El p → Prop) (t : Tab p) (W : El p → Prop) : Prop where
  ok : TabOk t
  tmem : ∀ d y, t d = some y → Gen S y
  wmem : ∀ x, W x → Gen S x
  need : ∀ x, S x → Cov t W x
  top : ∀ d y, t d = some y → Cov t W (pw y (p.o d).toNat)
  pair : ∀ d e y z, t d = some y → t e = some z → d ≠ e → Cov t W (cm y z) ∨ Cov t W (cm z y)
variable {S W W' : El p → Prop} {t : Tab p}
theorem Wk.start : Wk S (fun _ => none) S where
  ok := ⟨(fun _ _ h => by cases h), (fun _ _ h => by cases h), (fun _ _ h => by cases h)⟩
  tmem _ _ h := by cases h
  wmem := .of
  need x hx := ⟨x, .inr hx, fun _ _ h => h⟩
  top _ _ h := by cases h
  pair _ _ _ _ h := by cases h
theorem Wk.congr (h : Wk S t W) (e : ∀ a, W a ↔ W' a) : Wk S t W' := by
  have : W = W' := funext fun a => propext (e a)
  rw [← this]; exact h
theorem Cov.step {t' : Tab p} (ha : Above t t') {x r a : El p} (hx : Stp t x r) (hW : ∀ a, W a → a = x ∨ W' a) (hr : r = 1 ∨ W' r) (h : Cov t W a) : Cov t' W' a := by
  obtain ⟨s, hs, hs'⟩ := h
  rcases hs with rfl | hs
  · exact ⟨1, .inl rfl, fun t2 h2 hr2 => hs' t2 (ha.trans h2) hr2⟩
  · rcases hW s hs with rfl | h3
    · exact ⟨r, hr, fun t2 h2 hr2 => hs' t2 (ha.trans h2) (hx.red (ha.trans h2) hr2)⟩
    · exact ⟨s, .inr h3, fun t2 h2 hr2 => hs' t2 (ha.trans h2) hr2⟩
theorem Wk.drop (h : Wk S t W) {x : El p} (hx : Stp t x 1) (hW : ∀ a, W a → a = x ∨ W' a) (hW' : ∀ a, W' a → W a) : Wk S t W' where
  ok := h.ok
  tmem := h.tmem
  wmem a ha := h.wmem a (hW' a ha)
  need a ha := (h.need a ha).step (Above.refl t) hx hW (.inl rfl)
  top d y e := (h.top d y e).step (Above.refl t) hx hW (.inl rfl)
  pair d e y z h1 h2 h3 := (h.pair d e y z h1 h2 h3).imp (·.step (Above.refl t) hx hW (.inl rfl)) (·.step (Above.refl t) hx hW (.inl rfl))
def Tab.set (t : Tab p) (d : Nat) (y : El p) : Tab p := fun e => if e = d then some y else t e
theorem Tab.set_above {d : Nat} {y : El p} (h : t d = none) : Above t (Tab.set t d y) := fun e z hz => by
  unfold Tab.set
  split
  · rename_i he; subst he; rw [h] at hz; cases hz
  · exact hz
theorem Wk.fill (h : Wk S t W) {x r y : El p} {d k : Nat} (hd : d < p.n) (hx : Stp t x r) (hxW : W x) (hrd : Tl d r) (hr0 : co r d ≠ 0) (ht : t d = none) (hy : y = pw r k) (hk : (k * co r d) % p.o d = 1)
    (hW : ∀ a, W a → a = x ∨ W' a) (hW' : ∀ a, W' a → W a ∨ a = r ∨ a = pw y (p.o d).toNat ∨ ∃ e z, t e = some z ∧ (a = cm y z ∨ a = cm z y))
    (h1 : W' r) (h2 : W' (pw y (p.o d).toNat)) (h3 : ∀ e z, t e = some z → W' (cm y z) ∨ W' (cm z y)) : Wk S (Tab.set t d y) W' := by
  have ha : Above t (Tab.set t d y) := Tab.set_above ht
  have hrS : Gen S r := hx.mem (Gen.sub S) h.tmem (h.wmem x hxW)
  have hyS : Gen S y := by rw [hy]; exact (Gen.sub S).pw hrS k
  have hset : ∀ e z, Tab.set t d y e = some z → (e = d ∧ z = y) ∨ (e ≠ d ∧ t e = some z) := by
    intro e z hz
    unfold Tab.set at hz
    split at hz
    · rename_i he; exact .inl ⟨he, (Option.some.inj hz).symm⟩
    · rename_i he; exact .inr ⟨he, hz⟩
  have now : ∀ a, W' a → Cov (Tab.set t d y) W' a := fun a ha' => ⟨a, .inr ha', fun _ _ h => h⟩
  constructor
  · refine ⟨fun e z hz => ?_, fun e z hz => ?_, fun e z hz => ?_⟩
    · rcases hset e z hz with ⟨rfl, rfl⟩ | ⟨_, h'⟩
      · exact hd
      · exact h.ok.lt e z h'
    · rcases hset e z hz with ⟨rfl, rfl⟩ | ⟨_, h'⟩
      · rw [hy]; exact hrd.pw (by omega) k
      · exact h.ok.tl e z h'
    · rcases hset e z hz with ⟨rfl, rfl⟩ | ⟨_, h'⟩
      · rw [hy, co_pw hd hrd]; exact hk
      · exact h.ok.lead e z h'
  · intro e z hz
    rcases hset e z hz with ⟨rfl, rfl⟩ | ⟨_, h'⟩
    · exact hyS
    · exact h.tmem e z h'
  · intro a ha'
    rcases hW' a ha' with h' | rfl | rfl | ⟨e, z, hz, rfl | rfl⟩
    · exact h.wmem a h'
    · exact hrS
    · exact (Gen.sub S).pw hyS _
    · exact (Gen.sub S).cm hyS (h.tmem e z hz)
    · exact (Gen.sub S).cm (h.tmem e z hz) hyS
  · exact fun a ha' => (h.need a ha').step ha hx hW (.inr h1)
  · intro e z hz
    rcases hset e z hz with ⟨rfl, rfl⟩ | ⟨_, h'⟩
    · exact now _ h2
    · exact (h.top e z h').step ha hx hW (.inr h1)
  · intro e f z u hz hu hne
    rcases hset e z hz with ⟨rfl, rfl⟩ | ⟨_, hz'⟩
    · rcases hset f u hu with ⟨rfl, rfl⟩ | ⟨_, hu'⟩
      · exact absurd rfl hne
      · exact (h3 f u hu').imp (now _) (now _)
    · rcases hset f u hu with ⟨rfl, rfl⟩ | ⟨_, hu'⟩
      · exact (h3 e z hz').symm.imp (now _) (now _)
      · exact (h.pair e f z u hz' hu' hne).imp (·.step ha hx hW (.inr h1)) (·.step ha hx hW (.inr h1))
theorem Cov.done {a : El p} (h : Cov t W a) (hW : ∀ a, ¬ W a) : Red t a := by
  obtain ⟨r, hr, h⟩ := h
  rcases hr with rfl | hr
  · exact h t (Above.refl t) .one
  · exact absurd hr (hW r)
theorem Wk.full (h : Wk S t W) (hW : ∀ a, ¬ W a) : Full t where
  ok := h.ok
  ptop d y e := (h.top d y e).done hW
  pcm d e y z h1 h2 h3 := (h.pair d e y z h1 h2 (by omega)).imp (·.done hW) (·.done hW)
theorem Wk.gen (h : Wk S t W) (hW : ∀ a, ¬ W a) : Gen (Ents t) = Gen S := by
  funext a
  apply propext
  constructor
  · exact Gen.le (Gen.sub S) (fun a ⟨d, hd⟩ => h.tmem d a hd) a
  · exact Gen.le (Gen.sub _) (fun a ha => ((h.need a ha).done hW).gen) a
end
end Go.Pc

/-
  Inverses in the tails: the inverse of an element out of the inverses in the next tail.
  Conditions: the tails at the level and behind it are groups; nothing of the program stands here.
-/
namespace Go.Pc
open Grp
section
variable {p : Pr} {i : Nat} [h : Con p i] [h' : Con p (i + 1)]
/-- An element of the next tail in this one. -/
def up (x : T p (i + 1)) : T p i := ⟨x.v, x.inr, ZU.mono x.zu (by omega)⟩
end
end Go.Pc

/-
  Collection in the tails: what it is to multiply by one generator in place.
  Conditions: the tail is a group; nothing of the program stands here.
-/
namespace Go.Pc
open Grp
section
variable {H : Type} [Grp H]
theorem phi_split (c : Nat → H) (x : List Int) : ∀ a l b, phi c x l (a + b) = phi c x l a * phi c x (l + a) b
  | 0, l, b => by rw [Nat.zero_add, phi, Grp.one_mul]; rfl
  | a + 1, l, b => by rw [show a + 1 + b = (a + b) + 1 by omega, phi, phi_split c x a (l + 1) b, phi, Grp.mul_assoc, show l + 1 + a = l + (a + 1) by omega]
theorem phi_none (c : Nat → H) {x : List Int} : ∀ k l, (∀ j, l ≤ j → j < l + k → x.getD j 0 = 0 ∨ c j = 1) → phi c x l k = 1
  | 0, _, _ => rfl
  | k + 1, l, h => by
    rw [phi, phi_none c k (l + 1) (fun j h1 h2 => h j (by omega) (by omega)), Grp.mul_one]
    rcases h l (Nat.le_refl _) (by omega) with h | h
    · rw [h]; rfl
    · rw [h, one_pw]
theorem phi_cong2 (c c' : Nat → H) {x y : List Int} : ∀ k l, (∀ j, l ≤ j → j < l + k → x.getD j 0 = y.getD j 0 ∧ c j = c' j) → phi c x l k = phi c' y l k
  | 0, _, _ => rfl
  | k + 1, l, h => by
    rw [phi, phi, phi_cong2 c c' k (l + 1) (fun j h1 h2 => h j (by omega) (by omega)), (h l (Nat.le_refl _) (by omega)).1, (h l (Nat.le_refl _) (by omega)).2]
theorem phi_map {K : Type} [Grp K] (f : H → K) (hf : ∀ x y, f (x * y) = f x * f y) (c : Nat → H) (x : List Int) : ∀ k l, f (phi c x l k) = phi (fun j => f (c j)) x l k := by
  have f1 : f 1 = 1 := Grp.mul_left_cancel (a := f 1) (by rw [← hf, Grp.one_mul, Grp.mul_one])
  have fp : ∀ a q, f (pw a q) = pw (f a) q := by
    intro a q
    induction q with
    | zero => exact f1
    | succ q ih => rw [pw_succ, hf, ih, pw_succ]
  intro k
  induction k with
  | zero => intro l; exact f1
  | succ k ih => intro l; rw [phi, hf, fp, ih, phi]
end
section
variable {p : Pr} {i : Nat}
theorem img_unit (hv : Valid p) {j k : Nat} (hjk : j < k) (hk : k < p.n) : img p j (unitv p k 1) = p.c j k := by
  have key : ∀ m, m ≤ p.n - (j + 1) → imgTo p j (unitv p k 1) m = if j + 1 + m ≤ k then zeros p.n else p.c j k := by
    intro m
    induction m with
    | zero => intro _; rw [imgTo_zero, if_pos (by omega)]
    | succ m ih =>
      intro hm
      rw [imgTo_succ, ih (by omega)]
      by_cases e : j + 1 + m = k
      · rw [if_pos (by omega), if_neg (by omega), e]
        have e1 : (unitv p k 1).getD k 0 = 1 := getD_set_eq _ _ _ (by rw [zeros_len]; exact hk)
        rw [e1]
        show atv p (j + 1) (zeros p.n) (p.c j k) = p.c j k
        exact one_at hv _ (j + 1) rfl _ (hv.c_in _ _ hjk hk) (hv.c_zu _ _ hjk hk)
      · have e1 : (unitv p k 1).getD (j + 1 + m) 0 = 0 := by unfold unitv; rw [getD_set_ne _ _ _ _ (fun h => e h.symm), zeros_getD]
        rw [e1]
        show (if j + 1 + m ≤ k then zeros p.n else p.c j k) = _
        by_cases h : j + 1 + m ≤ k
        · rw [if_pos h, if_pos (by omega)]
        · rw [if_neg h, if_neg (by omega)]
  rw [img_eq, key _ (Nat.le_refl _), if_neg (by omega)]
def Tw' (hv : Valid p) {j : Nat} (hj : i ≤ j ∧ j < p.n) : T p i := ⟨p.w j, hv.w_in _ hj.2, (hv.w_zu _ hj.2).mono (by omega)⟩
variable [h : Con p i]
/-- The conjugate of generator k by generator j, in the tail at i. -/
noncomputable def cIn (p : Pr) (i : Nat) [h : Con p i] (j k : Nat) : T p i :=
  open Classical in if hk : i ≤ j ∧ j < k ∧ k < p.n then ⟨p.c j k, h.valid.c_in _ _ hk.2.1 hk.2.2, (h.valid.c_zu _ _ hk.2.1 hk.2.2).mono (by omega)⟩ else 1
theorem gOf_eq {j : Nat} (hj : i ≤ j ∧ j < p.n) : gOf p i j = gen h.valid i j hj := dif_pos hj
theorem rel_pow {j : Nat} (hj : i ≤ j ∧ j < p.n) : pw (gOf p i j) (p.o j).toNat = Tw' h.valid hj := by
  have hv := h.valid
  have ho := hv.opos hj.2
  obtain ⟨q, hq⟩ : ∃ q : Nat, (p.o j).toNat = q + 1 := ⟨(p.o j).toNat - 1, by omega⟩
  rw [gOf_eq hj, hq, pw_succ]
  apply T.ext
  rw [T.mul_val, gen_pw hj q (by omega)]
  show atv p i (unitv p j q) (unitv p j 1) = p.w j
  have hk := unitv_in hv (j := j) (k := (q : Int)) (by omega) (fun _ => by omega)
  have h1' := unitv_in hv (j := j) (k := 1) (by omega) (fun _ => by omega)
  have e1 : ∀ k, (unitv p j k).getD j 0 = k := fun k => getD_set_eq _ _ _ (by rw [zeros_len]; exact hj.2)
  have hz : (zeros p.n).set j 0 = zeros p.n := by
    have := set_self (v := zeros p.n) (i := j) (by rw [zeros_len]; exact hj.2)
    rw [zeros_getD] at this; exact this
  have e2 : ∀ k, (unitv p j k).set j 0 = zeros p.n := fun k => by unfold unitv; rw [set_set, hz]
  rw [at_restrict' hv hj.1 hk h1' (unitv_zu p (Nat.le_refl _) q) (unitv_zu p (Nat.le_refl _) 1), atv_eq _ _ _ _ hj.2, e1, e1, if_pos (by omega), e2, e2,
    rep_id (img_zeros j), one_at hv _ (j + 1) rfl _ hv.zeros_in (zeros_zu _ _), at_one hv _ (j + 1) rfl _ (hv.w_in j hj.2) (hv.w_zu j hj.2), show (q : Int) + 1 - p.o j = 0 by omega]
  have := set_self (v := p.w j) (i := j) (by rw [(hv.w_in j hj.2).len]; exact hj.2)
  rw [hv.w_zu j hj.2 j (by omega)] at this
  exact this
theorem rel_conj {j k : Nat} (hj : i ≤ j) (hjk : j < k) (hk : k < p.n) : gOf p i k * gOf p i j = gOf p i j * cIn p i j k := by
  have hv := h.valid
  have ho := hv.opos (show j < p.n by omega)
  have hok := hv.opos hk
  have hc : cIn p i j k = ⟨p.c j k, hv.c_in _ _ hjk hk, (hv.c_zu _ _ hjk hk).mono (by omega)⟩ := dif_pos ⟨hj, hjk, hk⟩
  rw [gOf_eq ⟨by omega, hk⟩, gOf_eq ⟨hj, by omega⟩, hc]
  apply T.ext
  rw [T.mul_val, T.mul_val]
  show atv p i (unitv p k 1) (unitv p j 1) = atv p i (unitv p j 1) (p.c j k)
  have hk1 := unitv_in hv (j := k) (k := 1) (by omega) (fun _ => by omega)
  have hj1 := unitv_in hv (j := j) (k := 1) (by omega) (fun _ => by omega)
  rw [unit_at hv hj (by omega) (by omega) (by omega) (hv.c_in _ _ hjk hk) (hv.c_zu _ _ hjk hk)]
  have e1 : (unitv p j 1).getD j 0 = 1 := getD_set_eq _ _ _ (by rw [zeros_len]; omega)
  have e0 : (unitv p k 1).getD j 0 = 0 := by unfold unitv; rw [getD_set_ne _ _ _ _ (by omega), zeros_getD]
  have hz : (zeros p.n).set j 0 = zeros p.n := by
    have := set_self (v := zeros p.n) (i := j) (by rw [zeros_len]; omega)
    rw [zeros_getD] at this; exact this
  have e2 : (unitv p j 1).set j 0 = zeros p.n := by unfold unitv; rw [set_set, hz]
  have e3 : (unitv p k 1).set j 0 = unitv p k 1 := by
    have := set_self (v := unitv p k 1) (i := j) (by rw [hk1.len]; omega)
    rw [e0] at this; exact this
  rw [at_restrict' hv hj hk1 hj1 (unitv_zu p (by omega) 1) (unitv_zu p (Nat.le_refl _) 1), atv_eq _ _ _ _ (show j < p.n by omega), e0, e1, if_neg (by omega), e2, e3]
  have hci := hv.c_in _ _ hjk hk
  have hcz := hv.c_zu _ _ hjk hk
  show (atv p (j + 1) (img p j (unitv p k 1)) (zeros p.n)).set j (0 + 1) = _
  rw [img_unit hv hjk hk, at_one hv _ (j + 1) rfl _ hci hcz]
  rfl
theorem phi_conj {j : Nat} (hj : i ≤ j) (x : List Int) : phi (gOf p i) x (j + 1) (p.n - (j + 1)) * gOf p i j = gOf p i j * phi (cIn p i j) x (j + 1) (p.n - (j + 1)) := by
  have h1 := phi_map (fun a : T p i => cj a (gOf p i j)) (fun a b => cj_mul a b _) (gOf p i) x (p.n - (j + 1)) (j + 1)
  have h2 : phi (fun t => cj (gOf p i t) (gOf p i j)) x (j + 1) (p.n - (j + 1)) = phi (cIn p i j) x (j + 1) (p.n - (j + 1)) := by
    refine phi_cong2 _ _ _ _ fun t h1 h2 => ⟨rfl, ?_⟩
    show cj (gOf p i t) (gOf p i j) = _
    unfold cj
    rw [rel_conj hj (by omega) (by omega), inv_mul_cancel_left]
  rw [← h2, ← h1, mul_cj]
/-- An element, cut at generator j. -/
theorem form_at {j : Nat} (hj : i ≤ j ∧ j < p.n) (x : T p i) : x = phi (gOf p i) x.v i (j - i) * (pw (gOf p i j) (x.v.getD j 0).toNat * phi (gOf p i) x.v (j + 1) (p.n - (j + 1))) := by
  have h1 := norm_form (p.n - i) i rfl (Nat.le_refl _) (by omega) x x.zu
  rw [show p.n - i = (j - i) + ((p.n - (j + 1)) + 1) by omega, phi_split, show i + (j - i) = j by omega, phi] at h1
  exact h1
section
variable {x e : T p i} {j : Nat} (hj : i ≤ j ∧ j < p.n) (hlow : ∀ t, t < j → e.v.getD t 0 = x.v.getD t 0) (hz : ∀ t, j < t → t < p.n → e.v.getD t 0 = 0)
include hj hlow hz
theorem tg_lt (hjv : e.v.getD j 0 = x.v.getD j 0 + 1) : e * phi (cIn p i j) x.v (j + 1) (p.n - (j + 1)) = x * gOf p i j := by
  have hx := x.inr.rng j hj.2
  have h1 : phi (gOf p i) e.v (j + 1) (p.n - (j + 1)) = 1 := phi_none _ _ _ fun t h1 h2 => .inl (hz t (by omega) (by omega))
  have h2 : phi (gOf p i) e.v i (j - i) = phi (gOf p i) x.v i (j - i) := phi_cong2 _ _ _ _ fun t h1 h2 => ⟨hlow t (by omega), rfl⟩
  have h3 := form_at hj e
  have h4 := form_at hj x
  rw [h1, h2, hjv, Grp.mul_one, show (x.v.getD j 0 + 1).toNat = (x.v.getD j 0).toNat + 1 by omega, pw_succ] at h3
  have h5 : x * gOf p i j = phi (gOf p i) x.v i (j - i) * (pw (gOf p i j) (x.v.getD j 0).toNat * (phi (gOf p i) x.v (j + 1) (p.n - (j + 1)) * gOf p i j)) := by
    conv => lhs; rw [h4]
    simp only [Grp.mul_assoc]
  rw [h5, phi_conj hj.1, h3]
  simp only [Grp.mul_assoc]
theorem tg_eq (hjv : e.v.getD j 0 = 0) (hxo : x.v.getD j 0 + 1 = p.o j) : e * Tw' h.valid hj * phi (cIn p i j) x.v (j + 1) (p.n - (j + 1)) = x * gOf p i j := by
  have hx := x.inr.rng j hj.2
  have h1 : phi (gOf p i) e.v (j + 1) (p.n - (j + 1)) = 1 := phi_none _ _ _ fun t h1 h2 => .inl (hz t (by omega) (by omega))
  have h2 : phi (gOf p i) e.v i (j - i) = phi (gOf p i) x.v i (j - i) := phi_cong2 _ _ _ _ fun t h1 h2 => ⟨hlow t (by omega), rfl⟩
  have h3 := form_at hj e
  have h4 := form_at hj x
  rw [h1, h2, hjv, Grp.mul_one] at h3
  have h6 : phi (gOf p i) x.v i (j - i) * pw (gOf p i j) (0 : Int).toNat = phi (gOf p i) x.v i (j - i) := Grp.mul_one _
  rw [h6] at h3
  have h5 : x * gOf p i j = phi (gOf p i) x.v i (j - i) * (pw (gOf p i j) (x.v.getD j 0).toNat * (phi (gOf p i) x.v (j + 1) (p.n - (j + 1)) * gOf p i j)) := by
    conv => lhs; rw [h4]
    simp only [Grp.mul_assoc]
  rw [h5, phi_conj hj.1, h3, ← rel_pow hj, show (p.o j).toNat = (x.v.getD j 0).toNat + 1 by omega, pw_succ]
  simp only [Grp.mul_assoc]
end
theorem phi_all (hi : i ≤ p.n) (y : T p i) : phi (gOf p i) y.v 0 p.n = y := by
  have h1 := norm_form (p.n - i) i rfl (Nat.le_refl _) hi y y.zu
  rw [show phi (gOf p i) y.v 0 p.n = phi (gOf p i) y.v 0 (i + (p.n - i)) by rw [show i + (p.n - i) = p.n by omega], phi_split, Nat.zero_add, ← h1,
    phi_none _ _ _ (fun t h1 h2 => .inl (y.zu t (by omega))), Grp.one_mul]
end
end Go.Pc

/-
  The first place of a list that is not zero.
  Conditions: none; nothing of the program stands here.
-/
namespace Go.Pc
/-- The first place that is not zero, or the length. -/
def lead : List Int → Nat
  | [] => 0
  | x :: l => if x = 0 then lead l + 1 else 0
theorem lead_zero : ∀ (v : List Int) (i : Nat), i < lead v → v.getD i 0 = 0
  | [], i, h => absurd h (Nat.not_lt_zero _)
  | x :: l, i, h => by
    unfold lead at h
    split at h
    · rename_i hx
      cases i with
      | zero => simpa using hx
      | succ i => simpa using lead_zero l i (by omega)
    · omega
theorem lead_ne : ∀ v : List Int, lead v < v.length → v.getD (lead v) 0 ≠ 0
  | [], h => absurd h (Nat.not_lt_zero _)
  | x :: l, h => by
    unfold lead at h ⊢
    split
    · rename_i hx
      rw [if_pos hx] at h
      simpa using lead_ne l (by simpa using h)
    · rename_i hx; simpa using hx
theorem lead_eq {v : List Int} {k : Nat} (h : ∀ i, i < k → v.getD i 0 = 0) (h0 : v.getD k 0 ≠ 0) : lead v = k := by
  have hk : k < v.length := by
    by_cases hk : k < v.length
    · exact hk
    · exact absurd (by rw [List.getD_eq_getElem?_getD, List.getElem?_eq_none (by omega)]; rfl) h0
  by_cases h1 : lead v < k
  · exact absurd (h _ h1) (lead_ne v (by omega))
  · by_cases h2 : k < lead v
    · exact absurd (lead_zero v k h2) h0
    · omega
end Go.Pc

/-
  Walks: copies and comparisons of lists, depths (slices.Clone, slices.Equal, slices.EqualFunc, slices.IndexFunc, sameRows, depthOf, pivots).
  Conditions: stated at each theorem: what the arguments read as, and that lists are short.
-/
namespace Go.Proofs.Ytjljbfcdpdckeaa
open Go Go.Pc
theorem sl_nil {lo hi : Nat} {w : World} {v : Value} {us : List Value} (h : Sl lo hi w v us) : NilB v true ∧ us = [] ∨ NilB v false := by
  obtain ⟨A, c, rfl, hc, hm, hcell⟩ := h.ex
  cases A with
  | some a => exact .inr ⟨_, _, _, rfl, rfl⟩
  | none =>
    refine .inl ⟨⟨_, _, _, rfl, rfl⟩, ?_⟩
    cases us with
    | nil => rfl
    | cons u l => obtain ⟨a, h, _⟩ := hcell 0 u rfl; cases h
set_option maxHeartbeats 400000 in
theorem cloneI_ok {w : World} {v : Value} {xs : List Int} {lo hi : Nat} [hx : Ints lo hi w v xs] (hl : xs.length ≤ 2000000) :
    Calls Try.prog 140 #[v] w (Ret fun v' w' => Ext w w' ∧ Fr w.heap.size w' v' xs) := by
  refine enter (args := [v]) (l := [.tmp 2]) Try.func140 rfl rfl Try.ntmps140 (by simp) ?_
  rcases sl_nil hx.sl with ⟨hn, h0⟩ | hn
  · have h0 : xs = [] := by simpa using h0
    subst h0
    refine go ?_
    exact ret1 ⟨Ext.refl _, (Lst.nil 2 w.heap.size w (av := fun _ => False) (fun _ h => h.elim)).own.toFr (xs := [])⟩
  · refine go ?_
    refine st_slice0 (by first | exact True.intro | exact ⟨_, rfl, by ((try simp only [ev_tmp, ev_const, ev_func, get_put, get_args, get_putL, get_putL_nil, Nat.reduceEqDiff, reduceIte, List.getD_cons_zero, List.getD_cons_succ, List.getD_nil, Bool.not_true, Bool.not_false]); first | done | with_reducible rfl)⟩) fun w1 v1 he1 hs1 ho1 => ?_
    refine go ?_
    have hN := ho1.toN
    have hsl : Sl lo hi w1 v _ := Sl.ext (h := hx.sl)
    refine st_append (hv := hN) (hy := hsl) (by ((try simp only [ev_tmp, ev_const, ev_func, get_put, get_args, get_putL, get_putL_nil, Nat.reduceEqDiff, reduceIte, List.getD_cons_zero, List.getD_cons_succ, List.getD_nil]); first | done | with_reducible rfl)) (by ((try simp only [ev_tmp, ev_const, ev_func, get_put, get_args, get_putL, get_putL_nil, Nat.reduceEqDiff, reduceIte, List.getD_cons_zero, List.getD_cons_succ, List.getD_nil]); first | done | with_reducible rfl)) rfl (oneCells xs) (by simp; omega) (by simp [maxLen]; omega) (by omega) (by first | exact True.intro | exact ⟨_, rfl, by ((try simp only [ev_tmp, ev_const, ev_func, get_put, get_args, get_putL, get_putL_nil, Nat.reduceEqDiff, reduceIte, List.getD_cons_zero, List.getD_cons_succ, List.getD_nil, Bool.not_true, Bool.not_false]); first | done | with_reducible rfl)⟩) fun v2 w2 ho2 hg2 ha2 => ?_
    refine go ?_
    have hN2 : OwnN 2 w.heap.size w2 v2 (xs.map (Value.int .i64)) := by simpa using ho2
    refine ret1 ⟨?_, hN2.toFr⟩
    obtain ⟨cap, cur, hv1, _⟩ := ho1.ex
    exact ⟨he1.below.grown hg2 (by omega) (fun k hk => by rw [hv1] at hk; simp [Value.ownBlock] at hk; omega)⟩
set_option maxHeartbeats 400000 in
theorem equalI_ok {w : World} {va vb : Value} {xs ys : List Int} {lo hi lo' hi' : Nat} [hx : Ints lo hi w va xs] [hy : Ints lo' hi' w vb ys] (hm : xs.length ≤ 2000000) :
    Calls Try.prog 134 #[va, vb] w (Ret fun v w' => ∃ b, v = .bool b ∧ (b = true ↔ xs = ys) ∧ Ext w w') := by
  refine enter (args := [va, vb]) (l := [.tmp 4]) Try.func134 rfl rfl Try.ntmps134 (by simp) ?_
  refine go ?_
  refine c_if (fun h1 => ?_) (fun h1 => ?_)
  · refine go ?_
    refine ret1 ⟨_, rfl, ?_, Ext.refl _⟩
    simp only [Bool.false_eq_true, false_iff]
    rintro rfl
    simp at h1
  · refine go ?_
    refine r_for xs.length (fun k ρ w' => Has ρ [(0, va), (1, vb), (12, .int .i64 xs.length), (13, .int .i64 k)] ∧ Ext w w' ∧ xs.take k = ys.take k) ?_ ?_
    · refine ⟨?_, Ext.refl _, rfl⟩
      exact hasP
    · rintro k ρ w1 hk ⟨hH, he, ht⟩
      refine rwp_has hH fun ρ0 => ?_
      refine go ?_
      refine c_if (fun h2 => ?_) (fun h2 => ?_)
      · refine go ?_
        refine d_region fun w2 he2 _ => ?_
        refine dgo ?_
        refine d_end (h := ?_)
        refine go ?_
        refine c_if (fun h3 => ?_) (fun h3 => ?_)
        · refine go ?_
          refine ret1 ⟨_, rfl, ?_, he.trans he2⟩
          simp only [Bool.false_eq_true, false_iff]
          rintro rfl
          exact h3 rfl
        · refine go ?_
          refine forQ_normal (by omega) ⟨?_, he.trans he2, take_succ_eq ht (by omega) (by omega) ?_⟩
          · exact hasP
          · exact Decidable.not_not.1 h3
      · refine go ?_
        refine ret1 ⟨_, rfl, ?_, he⟩
        have : k = xs.length := by omega
        subst this
        simp only [true_iff]
        rw [List.take_of_length_le (Nat.le_refl _), List.take_of_length_le (by omega)] at ht
        exact ht
end Go.Proofs.Ytjljbfcdpdckeaa

/-
  Walks: the program's products in place (timesGenerator, timesVector).
  Conditions: the tail at the level is a group; the vector written is the call's own and lies apart from what is read.
-/
namespace Go.Proofs.Ytjljbfcdpdckeaa
open Go Go.Pc
def TGSpec (p : Pr) (j : Nat) : Prop := ∀ {i : Nat} [Con p i] {w : World} {vp ve : Value} {te b : Nat} {kj : Int} {x : T p i} {xs : List Int} {lo hi : Nat} [PresP lo hi w vp p] [OwnI te b w ve xs] [Apart lo hi b],
  i ≤ j → j < p.n → kj = j → xs = x.v → Calls Try.prog 162 #[vp, ve, .int .i64 kj] w (Ret fun _ w' => Chg b w w' ∧ OwnI te b w' ve (x * gOf p i j).v)
def TVSpec (p : Pr) (j : Nat) : Prop := ∀ {i : Nat} [Con p i] {w : World} {vp ve vf : Value} {te b : Nat} {x y : T p i} {xs ys : List Int} {lo hi lo1 hi1 : Nat} [PresP lo hi w vp p] [OwnI te b w ve xs] [Ints lo1 hi1 w vf ys] [Apart lo hi b] [Apart lo1 hi1 b],
  i ≤ p.n → xs = x.v → ys = y.v → ZU j ys → Calls Try.prog 151 #[vp, ve, vf] w (Ret fun _ w' => Chg b w w' ∧ OwnI te b w' ve (x * y).v)
set_option maxHeartbeats 1000000 in
theorem tv_of_tg {p : Pr} {j : Nat} (htg : ∀ k, j ≤ k → TGSpec p k) : TVSpec p j := by
  intro i hcon w vp ve vf te b x y xs ys lo hi lo1 hi1 hp ho hf ha1 ha2 hin hxs hys hz
  subst hxs hys
  have hv := hcon.valid
  have hn6 := hv.n6
  have hyl := y.inr.len
  refine enter (args := [vp, ve, vf]) (l := []) Try.func151 rfl rfl Try.ntmps151 (by simp) ?_
  refine go ?_
  refine r_for p.n (fun k ρ w' => ∃ xs', Has ρ [(0, vp), (1, ve), (8, vf), (9, .int .i64 y.v.length), (10, .int .i64 k)] ∧ Chg b w w' ∧ OwnI te b w' ve xs' ∧ xs' = (x * phi (gOf p i) y.v 0 k).v) ?_ ?_
  · refine ⟨x.v, ?_, Chg.refl b w, ho, ?_⟩
    · exact hasP
    · show _ = (x * 1).v
      rw [Grp.mul_one]
  rintro k ρ w2 hk ⟨xs', hH, hc2, ho2, hx2⟩
  refine rwp_has hH fun ρ0 => ?_
  refine go ?_
  refine c_if (fun h4 => ?_) (fun h4 => ?_)
  · have hkn : k < p.n := by omega
    have hyk := y.inr.rng k hkn
    have hok := hv.opos hkn
    refine go ?_
    refine r_for (y.v.getD k 0).toNat (fun q ρ w' => ∃ xs', Has ρ [(0, vp), (1, ve), (8, vf), (9, .int .i64 y.v.length), (10, .int .i64 k), (6, .int .i64 k), (15, .int .i64 (y.v.getD k 0)), (16, .int .i64 q)] ∧ Chg b w w' ∧ OwnI te b w' ve xs' ∧ xs' = (x * phi (gOf p i) y.v 0 k * Grp.pw (gOf p i k) q).v) ?_ ?_
    · refine ⟨xs', ?_, hc2, ho2, ?_⟩
      · exact hasP
      · rw [Grp.pw_zero, Grp.mul_one]; exact hx2
    clear hc2 ho2
    rintro q ρ w3 hq ⟨xs3, hH3, hc3, ho3, hx3⟩
    refine rwp_has hH3 fun ρ1 => ?_
    refine go ?_
    refine c_if (fun h5 => ?_) (fun h5 => ?_)
    · have hik : i ≤ k := by
        by_cases h : i ≤ k
        · exact h
        · have := y.zu k (by omega); omega
      have hjk : j ≤ k := by
        by_cases h : j ≤ k
        · exact h
        · have := hz k (by omega); omega
      refine go ?_
      refine rc (htg k hjk (x := x * phi (gOf p i) y.v 0 k * Grp.pw (gOf p i k) q) hik hkn rfl hx3) (next := fun v4 w4 h4 => ?_)
      obtain ⟨hc4, ho4⟩ := h4
      refine go ?_
      refine forQ_normal (by omega) ⟨_, ?_, hc3.trans hc4, ho4, ?_⟩
      · exact hasP
      · rw [Grp.pw_succ, ← Grp.mul_assoc]
    · refine go ?_
      refine forQ_normal (by omega) ⟨xs3, ?_, hc3, ho3, ?_⟩
      · exact hasP
      · rw [hx3, phi_last, Nat.zero_add, show q = (y.v.getD k 0).toNat by omega, Grp.mul_assoc]
  · obtain rfl : k = p.n := by omega
    refine go ?_
    refine retQ_0 ⟨hc2, ?_⟩
    rw [phi_all hin] at hx2
    rw [← hx2]; exact ho2
theorem mkE {p : Pr} {i : Nat} [hc : Con p i] (x : T p i) {v : List Int} {j : Nat} (hj : i ≤ j ∧ j < p.n) (hl : v.length = p.n) (hlow : ∀ t, t < j → v.getD t 0 = x.v.getD t 0) (hjv : 0 ≤ v.getD j 0 ∧ v.getD j 0 < p.o j) (hz : ∀ t, j < t → t < p.n → v.getD t 0 = 0) : ∃ e : T p i, e.v = v := by
  refine ⟨⟨v, ⟨hl, fun t ht => ?_⟩, fun t ht => ?_⟩, rfl⟩
  · by_cases h1 : t < j
    · rw [hlow t h1]; exact x.inr.rng t ht
    · by_cases h2 : t = j
      · subst h2; exact hjv
      · rw [hz t (by omega) ht]; have := hc.valid.opos ht; omega
  · rw [hlow t (by omega)]; exact x.zu t ht
set_option maxHeartbeats 2000000 in
theorem tg_of_tv {p : Pr} {j : Nat} (htv : TVSpec p (j + 1)) : TGSpec p j := by
  intro i hcon w vp ve te b kj x xs lo hi hp ho ha hij hjn hkj hxs
  subst hxs hkj
  have hv := hcon.valid
  have hn6 := hv.n6
  have hol : p.ord.length = p.n := rfl
  have hwl : p.pow.length = p.n := hv.lenw
  have hcl : p.cnj.length = p.n := hv.lenc
  have hci := hv.lenci j hjn
  have hxl := x.inr.len
  have hxj := x.inr.rng j hjn
  have hoj := hv.opos hjn
  have hoe : p.ord.getD j 0 = p.o j := rfl
  have hbl := ho.lt
  obtain ⟨g, og, vo, vpw, vc, ps, cs, css, rfl, hg1, hg2, hc0, hc1, hc2, h1, h2, h3⟩ := hp.ex
  have hag : Apart g (g + 1) b := ⟨by have := ha.out; omega⟩
  refine enter (args := [.pointer (some ⟨g, og, none⟩), ve, .int .i64 j]) (l := []) Try.func162 rfl rfl Try.ntmps162 (by simp) ?_
  refine go ?_
  have hints : Ints b (b + 1) w ve x.v := inferInstance
  have hcut := hints.cut (l := j + 1) (k := x.v.length) (by omega) (Nat.le_refl _)
  have hdl : ((x.v.take x.v.length).drop (j + 1)).length = p.n - (j + 1) := by simp [hxl]
  have hdg : ∀ k, ((x.v.take x.v.length).drop (j + 1)).getD k 0 = x.v.getD (j + 1 + k) 0 := fun k => by simp
  refine rc (cloneI_ok (xs := (x.v.take x.v.length).drop (j + 1)) ?_) (next := fun v1 w1 h4 => ?_)
  · omega
  obtain ⟨he1, hf1⟩ := h4
  generalize (x.v.take x.v.length).drop (j + 1) = rest at hcut hdl hdg hf1
  have hfi := hf1.ints
  have ha1 : Apart w.heap.size w1.heap.size b := ⟨.inl hbl⟩
  have ho1 : OwnI te b w1 ve x.v := inferInstance
  refine go ?_
  refine r_for (p.n - (j + 1)) (fun k ρ w' => ∃ xs', Has ρ [(0, .pointer (some ⟨g, og, none⟩)), (1, ve), (2, .int .i64 j), (6, v1), (16, .int .i64 rest.length), (17, .int .i64 k)] ∧ Chg b w1 w' ∧ OwnI te b w' ve xs' ∧ xs'.length = p.n ∧
    ∀ t, xs'.getD t 0 = if j + 1 ≤ t ∧ t < j + 1 + k then 0 else x.v.getD t 0) ?_ ?_
  · refine ⟨x.v, ?_, Chg.refl b w1, ho1, hxl, fun t => by rw [if_neg (by omega)]⟩
    exact hasP
  clear ho1
  rintro k ρ w2 hk ⟨xs2, hH2, hch2, ho2, hl2, hx2⟩
  refine rwp_has hH2 fun ρ0 => ?_
  refine go ?_
  refine c_if (fun h4 => ?_) (fun h4 => ?_)
  · refine go ?_
    refine st_store_int (by ((try simp only [ev_tmp, ev_const, ev_func, get_put, get_args, get_putL, get_putL_nil, Nat.reduceEqDiff, reduceIte, List.getD_cons_zero, List.getD_cons_succ, List.getD_nil]); first | done | with_reducible rfl)) (by ((try simp only [ev_tmp, ev_const, ev_func, get_put, get_args, get_putL, get_putL_nil, Nat.reduceEqDiff, reduceIte, List.getD_cons_zero, List.getD_cons_succ, List.getD_nil]); first | done | with_reducible rfl)) ?_ (by first | exact True.intro | exact ⟨_, rfl, by ((try simp only [ev_tmp, ev_const, ev_func, get_put, get_args, get_putL, get_putL_nil, Nat.reduceEqDiff, reduceIte, List.getD_cons_zero, List.getD_cons_succ, List.getD_nil, Bool.not_true, Bool.not_false]); first | done | with_reducible rfl)⟩) fun w3 hch3 hs3 ho3 => ?_
    · omega
    refine go ?_
    refine forQ_normal (by omega) ⟨xs2.set (j + 1 + k) 0, ?_, hch2.trans hch3, ho3, by simp [hl2], fun t => ?_⟩
    · exact hasP
    · by_cases e : j + 1 + k = t
      · subst e; rw [Pc.getD_set_eq _ _ _ (by omega), if_pos (by omega)]
      · rw [Pc.getD_set_ne _ _ _ _ e, hx2 t]
        by_cases h : j + 1 ≤ t ∧ t < j + 1 + k
        · rw [if_pos h, if_pos (by omega)]
        · rw [if_neg h, if_neg (by omega)]
  · have hk' : k = p.n - (j + 1) := by omega
    subst hk'
    have hlow2 : ∀ t, t < j + 1 → xs2.getD t 0 = x.v.getD t 0 := fun t ht => by rw [hx2, if_neg (by omega)]
    have hz2 : ∀ t, j < t → t < p.n → xs2.getD t 0 = 0 := fun t h1 h2 => by rw [hx2, if_pos (by omega)]
    have hj2 := hlow2 j (by omega)
    clear hx2
    refine go ?_
    refine st_store_int (by ((try simp only [ev_tmp, ev_const, ev_func, get_put, get_args, get_putL, get_putL_nil, Nat.reduceEqDiff, reduceIte, List.getD_cons_zero, List.getD_cons_succ, List.getD_nil]); first | done | with_reducible rfl)) (by ((try simp only [ev_tmp, ev_const, ev_func, get_put, get_args, get_putL, get_putL_nil, Nat.reduceEqDiff, reduceIte, List.getD_cons_zero, List.getD_cons_succ, List.getD_nil]); first | done | with_reducible rfl)) ?_ (by first | exact True.intro | exact ⟨_, rfl, by ((try simp only [ev_tmp, ev_const, ev_func, get_put, get_args, get_putL, get_putL_nil, Nat.reduceEqDiff, reduceIte, List.getD_cons_zero, List.getD_cons_succ, List.getD_nil, Bool.not_true, Bool.not_false]); first | done | with_reducible rfl)⟩) fun w3 hch3 hs3 ho3 => ?_
    · omega
    have hch3' := hch2.trans hch3
    have hl3 : (xs2.set j (xs2.getD j 0 + 1)).length = p.n := by simp [hl2]
    have hj3 : (xs2.set j (xs2.getD j 0 + 1)).getD j 0 = x.v.getD j 0 + 1 := by rw [Pc.getD_set_eq _ _ _ (by omega), hj2]
    have hlow3 : ∀ t, t < j → (xs2.set j (xs2.getD j 0 + 1)).getD t 0 = x.v.getD t 0 := fun t ht => by rw [Pc.getD_set_ne _ _ _ _ (by omega), hlow2 t (by omega)]
    have hz3 : ∀ t, j < t → t < p.n → (xs2.set j (xs2.getD j 0 + 1)).getD t 0 = 0 := fun t h1 h2 => by rw [Pc.getD_set_ne _ _ _ _ (by omega), hz2 t h1 h2]
    generalize xs2.set j (xs2.getD j 0 + 1) = xs3 at ho3 hl3 hj3 hlow3 hz3
    clear ho2 hch2 hch3
    have hch0 : Chg b w w3 := hch3'.pre he1 hbl
    refine go ?_
    refine d_region fun w4 he4 _ => ?_
    refine dgo ?_
    refine d_end (h := ?_)
    have hch4 : Chg b w1 w4 := hch3'.grow he4
    have ho4 : OwnI te b w4 ve xs3 := inferInstance
    clear ho3
    refine go ?_
    refine rwp_mono (Q := onK fun ρ w' => ∃ xs' e, Has ρ [(0, .pointer (some ⟨g, og, none⟩)), (1, ve), (2, .int .i64 j), (6, v1)] ∧ Chg b w1 w' ∧ OwnI te b w' ve xs' ∧ xs' = T.v (p := p) (i := i) e ∧ e * phi (cIn p i j) x.v (j + 1) (p.n - (j + 1)) = x * gOf p i j) ?_ ?_
    · refine c_if (fun h5 => ?_) (fun h5 => ?_)
      · refine go ?_
        refine st_store_int (by ((try simp only [ev_tmp, ev_const, ev_func, get_put, get_args, get_putL, get_putL_nil, Nat.reduceEqDiff, reduceIte, List.getD_cons_zero, List.getD_cons_succ, List.getD_nil]); first | done | with_reducible rfl)) (by ((try simp only [ev_tmp, ev_const, ev_func, get_put, get_args, get_putL, get_putL_nil, Nat.reduceEqDiff, reduceIte, List.getD_cons_zero, List.getD_cons_succ, List.getD_nil]); first | done | with_reducible rfl)) ?_ (by first | exact True.intro | exact ⟨_, rfl, by ((try simp only [ev_tmp, ev_const, ev_func, get_put, get_args, get_putL, get_putL_nil, Nat.reduceEqDiff, reduceIte, List.getD_cons_zero, List.getD_cons_succ, List.getD_nil, Bool.not_true, Bool.not_false]); first | done | with_reducible rfl)⟩) fun w5 hch5 hs5 ho5 => ?_
        · omega
        have hj5 : (xs3.set j 0).getD j 0 = 0 := Pc.getD_set_eq _ _ _ (by omega)
        have hlow5 : ∀ t, t < j → (xs3.set j 0).getD t 0 = x.v.getD t 0 := fun t ht => by rw [Pc.getD_set_ne _ _ _ _ (by omega), hlow3 t ht]
        have hz5 : ∀ t, j < t → t < p.n → (xs3.set j 0).getD t 0 = 0 := fun t h1 h2 => by rw [Pc.getD_set_ne _ _ _ _ (by omega), hz3 t h1 h2]
        obtain ⟨e, he⟩ := mkE x (v := xs3.set j 0) ⟨hij, hjn⟩ (by simp [hl3]) hlow5 (by rw [hj5]; omega) hz5
        rw [← he] at hj5 hlow5 hz5
        have hch15 : Chg b w1 w5 := hch4.trans hch5
        have hch05 : Chg b w w5 := hch15.pre he1 hbl
        clear ho4 hch5
        refine go ?_
        refine rc (htv (x := e) (y := Tw' hv ⟨hij, hjn⟩) (by omega) he.symm rfl (hv.w_zu j hjn)) (next := fun v6 w6 h6 => ?_)
        obtain ⟨hch6, ho6⟩ := h6
        refine go ?_
        refine onK_normal ⟨_, e * Tw' hv ⟨hij, hjn⟩, ?_, hch15.trans hch6, ho6, rfl, tg_eq ⟨hij, hjn⟩ hlow5 hz5 hj5 (by omega)⟩
        exact hasP
      · refine go ?_
        obtain ⟨e, he⟩ := mkE x (v := xs3) ⟨hij, hjn⟩ hl3 hlow3 (by omega) hz3
        rw [← he] at hj3 hlow3 hz3
        refine onK_normal ⟨_, e, ?_, hch4, ho4, he.symm, tg_lt ⟨hij, hjn⟩ hlow3 hz3 hj3⟩
        exact hasP
    · intro ex ρ w5 hK
      cases ex with
      | normal =>
        obtain ⟨xs5, e, hH5, hch5, ho5, hx5, hE⟩ := hK
        clear ho4 hch4 hch3' hch0
        refine thn_normal (rwp_has hH5 fun ρ1 => ?_)
        refine go ?_
        refine r_for (p.n - (j + 1)) (fun k ρ w' => ∃ xs', Has ρ [(0, .pointer (some ⟨g, og, none⟩)), (1, ve), (2, .int .i64 j), (58, v1), (59, .int .i64 rest.length), (60, .int .i64 k)] ∧ Chg b w1 w' ∧ OwnI te b w' ve xs' ∧ xs' = (e * phi (cIn p i j) x.v (j + 1) k).v) ?_ ?_
        · refine ⟨xs5, ?_, hch5, ho5, ?_⟩
          · exact hasP
          · show _ = (e * 1).v
            rw [Grp.mul_one]; exact hx5
        clear ho5 hch5
        rintro k ρ w6 hk ⟨xs6, hH6, hch6, ho6, hx6⟩
        refine rwp_has hH6 fun ρ2 => ?_
        refine go ?_
        refine c_if (fun h6 => ?_) (fun h6 => ?_)
        · have hkn : j + 1 + k < p.n := by omega
          have hyk := x.inr.rng (j + 1 + k) hkn
          have hok := hv.opos hkn
          have hdk := hdg k
          refine go ?_
          refine r_for (x.v.getD (j + 1 + k) 0).toNat (fun q ρ w' => ∃ xs', Has ρ [(0, .pointer (some ⟨g, og, none⟩)), (1, ve), (2, .int .i64 j), (58, v1), (59, .int .i64 rest.length), (60, .int .i64 k), (8, .int .i64 k), (65, .int .i64 (x.v.getD (j + 1 + k) 0)), (66, .int .i64 q)] ∧ Chg b w1 w' ∧ OwnI te b w' ve xs' ∧
            xs' = (e * phi (cIn p i j) x.v (j + 1) k * Grp.pw (cIn p i j (j + 1 + k)) q).v) ?_ ?_
          · refine ⟨xs6, ?_, hch6, ho6, ?_⟩
            · exact hasP
            · rw [Grp.pw_zero, Grp.mul_one]; exact hx6
          clear ho6 hch6
          rintro q ρ w7 hq ⟨xs7, hH7, hch7, ho7, hx7⟩
          refine rwp_has hH7 fun ρ3 => ?_
          have hch07 : Chg b w w7 := hch7.pre he1 hbl
          have hcv : (p.cnj.getD j []).getD k [] = (cIn p i j (j + 1 + k)).v := by
            have : cIn p i j (j + 1 + k) = _ := dif_pos ⟨hij, by omega, hkn⟩
            rw [this]
            show _ = p.c j (j + 1 + k)
            unfold Pr.c
            rw [show j + 1 + k - j - 1 = k by omega]
          refine go ?_
          refine c_if (fun h7 => ?_) (fun h7 => ?_)
          · have hzc : ZU (j + 1) (cIn p i j (j + 1 + k)).v := by
              have : cIn p i j (j + 1 + k) = _ := dif_pos ⟨hij, by omega, hkn⟩
              rw [this]
              exact hv.c_zu _ _ (by omega) hkn
            refine go ?_
            refine rc (htv (x := e * phi (cIn p i j) x.v (j + 1) k * Grp.pw (cIn p i j (j + 1 + k)) q) (y := cIn p i j (j + 1 + k)) (by omega) hx7 hcv (by rw [hcv]; exact hzc)) (next := fun v8 w8 h8 => ?_)
            obtain ⟨hch8, ho8⟩ := h8
            refine go ?_
            refine forQ_normal (by omega) ⟨_, ?_, hch7.trans hch8, ho8, ?_⟩
            · exact hasP
            · rw [Grp.pw_succ, ← Grp.mul_assoc]
          · refine go ?_
            refine forQ_normal (by omega) ⟨xs7, ?_, hch7, ho7, ?_⟩
            · exact hasP
            · rw [hx7, phi_last, show q = (x.v.getD (j + 1 + k) 0).toNat by omega, Grp.mul_assoc]
        · obtain rfl : k = p.n - (j + 1) := by omega
          refine go ?_
          refine retQ_0 ⟨hch6.pre he1 hbl, ?_⟩
          rw [hE] at hx6
          rw [← hx6]; exact ho6
      | _ => exact hK.elim
theorem tgv_ok {p : Pr} : ∀ (m j : Nat), p.n - j = m → TGSpec p j ∧ TVSpec p j
  | 0, j, hm => by
    have htg : ∀ k, j ≤ k → TGSpec p k := by
      intro k hk i hcon w vp ve te b kj x xs lo hi hp ho ha hij hjn
      omega
    exact ⟨htg j (Nat.le_refl _), tv_of_tg htg⟩
  | m + 1, j, hm => by
    have ih := tgv_ok (p := p) m (j + 1) (by omega)
    have htg : ∀ k, j ≤ k → TGSpec p k := by
      intro k hk
      by_cases e : k = j
      · subst e; exact tg_of_tv ih.2
      · exact (tgv_ok (p := p) (p.n - k) k rfl).1
    exact ⟨htg j (Nat.le_refl _), tv_of_tg htg⟩
termination_by m => m
decreasing_by all_goals omega
theorem timesGenerator_ok {p : Pr} (j : Nat) : TGSpec p j := (tgv_ok _ j rfl).1
theorem timesVector_ok {p : Pr} (j : Nat) : TVSpec p j := (tgv_ok _ j rfl).2
end Go.Proofs.Ytjljbfcdpdckeaa

/-
  Walks: the program's products, powers, inverses, conjugates, commutators, images (multiply, power, invert, conjugate, commutator, imageBy, unitVector).
  Conditions: the tail at the level is a group.
-/
namespace Go.Proofs.Ytjljbfcdpdckeaa
open Go Go.Pc
set_option maxHeartbeats 400000 in
/-- Nothing is multiplied. -/
theorem timesVector0_ok {w : World} {vp ve vf : Value} {lo1 hi1 : Nat} [hf : Ints lo1 hi1 w vf []] : Calls Try.prog 151 #[vp, ve, vf] w (Ret fun _ w' => Ext w w') := by
  refine enter (args := [vp, ve, vf]) (l := []) Try.func151 rfl rfl Try.ntmps151 (by simp) ?_
  refine go ?_
  refine r_for 0 (fun k ρ w' => Has ρ [(9, .int .i64 ([] : List Int).length), (10, .int .i64 k)] ∧ Ext w w') ?_ ?_
  · refine ⟨?_, Ext.refl _⟩
    exact hasP
  rintro k ρ w2 hk ⟨hH, he2⟩
  refine rwp_has hH fun ρ0 => ?_
  refine go ?_
  refine c_if (fun h4 => ?_) (fun h4 => ?_)
  · simp at h4
    omega
  · refine go ?_
    exact retQ_0 he2
section
variable {p : Pr} {i : Nat} [hcon : Con p i]
theorem el0 (hn : p.n = 0) (x : T p i) : x.v = [] := List.eq_nil_of_length_eq_zero (by rw [x.inr.len, hn])
/-- Into a vector of the caller's own, of which the caller's memory ahead of world w0 is apart. -/
theorem timesVectorF_ok {w0 w : World} {vp ve vf : Value} {x y : T p i} {xs ys : List Int} [hp : PresP 0 w0.heap.size w0 vp p] [hf : Ints 0 w0.heap.size w0 vf ys] (he : Ext w0 w) (hx : Fr w0.heap.size w ve xs) (hi : i ≤ p.n) (hxs : xs = x.v) (hys : ys = y.v) :
    Calls Try.prog 151 #[vp, ve, vf] w (Ret fun _ w' => Ext w0 w' ∧ Fr w0.heap.size w' ve (x * y).v) := by
  by_cases hn : p.n = 0
  · have h1 : ys = [] := by rw [hys]; exact el0 hn y
    subst h1
    refine Calls.ret_mono (timesVector0_ok (vf := vf) (lo1 := 0) (hi1 := w0.heap.size)) fun v w' h => ⟨he.trans h, ?_⟩
    rw [el0 hn (x * y), ← el0 hn x, ← hxs]
    exact hx.ext' h
  · obtain ⟨te, b, hb, ho⟩ := hx.own (by intro e; have := x.inr.len; rw [← hxs, e] at this; simp at this; omega)
    have ha : Apart 0 w0.heap.size b := ⟨.inr hb⟩
    refine Calls.ret_mono (timesVector_ok 0 (x := x) (y := y) hi hxs hys (fun k hk => absurd hk (Nat.not_lt_zero _))) fun v w' h => ?_
    exact ⟨h.1.ext he hb, h.2.toFr hb⟩
set_option maxHeartbeats 1000000 in
theorem multiply_ok {w : World} {vp va vb : Value} {x y : T p i} {xs ys : List Int} {lo hi lo1 hi1 lo2 hi2 : Nat} [hp : PresP lo hi w vp p] [hx : Ints lo1 hi1 w va xs] [hy : Ints lo2 hi2 w vb ys] (hi' : i ≤ p.n) (hxs : xs = x.v) (hys : ys = y.v) :
    Calls Try.prog 133 #[vp, va, vb] w (Ret fun v w' => Ext w w' ∧ Fr w.heap.size w' v (x * y).v) := by
  have hn6 := hcon.valid.n6
  replace hp := hp.wide
  replace hy := hy.wide
  refine enter (args := [vp, va, vb]) (l := [.tmp 6]) Try.func133 rfl rfl Try.ntmps133 (by simp) ?_
  refine go ?_
  refine rc (cloneI_ok (xs := xs) ?_) (next := fun v1 w1 h4 => ?_)
  · rw [hxs, x.inr.len]; omega
  obtain ⟨he1, hf1⟩ := h4
  refine go ?_
  refine rc (timesVectorF_ok (x := x) (y := y) he1 hf1 hi' hxs hys) (next := fun v2 w2 h5 => ?_)
  obtain ⟨he2, hf2⟩ := h5
  refine go ?_
  exact ret1 ⟨he2, hf2⟩
set_option maxHeartbeats 1000000 in
theorem power_ok {w : World} {vp va : Value} {x : T p i} {xs : List Int} {k : Int} {lo hi lo1 hi1 : Nat} [hp : PresP lo hi w vp p] [hx : Ints lo1 hi1 w va xs] (hi' : i ≤ p.n) (hxs : xs = x.v) (hk : 0 ≤ k ∧ k ≤ 9223372036854775806) :
    Calls Try.prog 108 #[vp, va, .int .i64 k] w (Ret fun v w' => Ext w w' ∧ Fr w.heap.size w' v (Grp.pw x k.toNat).v) := by
  have hn6 := hcon.valid.n6
  have hxl := x.inr.len
  replace hp := hp.wide
  replace hx := hx.wide
  refine enter (args := [vp, va, .int .i64 k]) (l := [.tmp 6]) Try.func108 rfl rfl Try.ntmps108 (by simp) ?_
  refine go ?_
  refine st_make_int (by ((try simp only [ev_tmp, ev_const, ev_func, get_put, get_args, get_putL, get_putL_nil, Nat.reduceEqDiff, reduceIte, List.getD_cons_zero, List.getD_cons_succ, List.getD_nil]); first | done | with_reducible rfl)) (by ((try simp only [ev_tmp, ev_const, ev_func, get_put, get_args, get_putL, get_putL_nil, Nat.reduceEqDiff, reduceIte, List.getD_cons_zero, List.getD_cons_succ, List.getD_nil]); first | done | with_reducible rfl)) (by omega) (by rw [hxs]; omega) (by first | exact True.intro | exact ⟨_, rfl, by ((try simp only [ev_tmp, ev_const, ev_func, get_put, get_args, get_putL, get_putL_nil, Nat.reduceEqDiff, reduceIte, List.getD_cons_zero, List.getD_cons_succ, List.getD_nil, Bool.not_true, Bool.not_false]); first | done | with_reducible rfl)⟩) fun w1 v1 he1 hs1 ho1 => ?_
  have hz : Fr w.heap.size w1 v1 (zeros p.n) := by
    have := ho1.toFr (Nat.le_refl w.heap.size)
    rwa [hxs, hxl] at this
  refine go ?_
  refine r_for k.toNat (fun q ρ w' => Has ρ [(0, vp), (1, va), (7, v1), (11, .int .i64 k), (12, .int .i64 q)] ∧ Ext w w' ∧ Fr w.heap.size w' v1 (Grp.pw x q).v) ?_ ?_
  · refine ⟨?_, he1, hz⟩
    exact hasP
  rintro q ρ w2 hq ⟨hH, he2, hf2⟩
  refine rwp_has hH fun ρ0 => ?_
  refine go ?_
  refine c_if (fun h4 => ?_) (fun h4 => ?_)
  · refine go ?_
    refine rc (timesVectorF_ok (x := Grp.pw x q) (y := x) he2 hf2 hi' rfl hxs) (next := fun v3 w3 h5 => ?_)
    obtain ⟨he3, hf3⟩ := h5
    refine go ?_
    refine forQ_normal (by omega) ⟨?_, he3, hf3⟩
    exact hasP
  · obtain rfl : q = k.toNat := by omega
    refine go ?_
    exact ret1 ⟨he2, hf2⟩
theorem co_gen {l : Nat} (hl : i ≤ l ∧ l < p.n) (x : T p i) : (∀ t, t < l → (x * gOf p i l).v.getD t 0 = x.v.getD t 0) ∧ (x * gOf p i l).v.getD l 0 = (x.v.getD l 0 + 1) % p.o l := by
  have hv := hcon.valid
  have hu := unitv_in hv (j := l) (k := 1) (by omega) (fun _ => by have := hv.opos hl.2; omega)
  have h := atv_low hv hl.2 (l - i) i rfl hl.1 x.v (unitv p l 1) x.inr hu x.zu (unitv_zu p (Nat.le_refl _) 1)
  rw [gOf_eq hl]
  have e1 : (unitv p l 1).getD l 0 = 1 := Pc.getD_set_eq _ _ _ (by rw [zeros_len]; exact hl.2)
  rw [e1] at h
  exact h
end
end Go.Proofs.Ytjljbfcdpdckeaa

/-
  Walks: the program's inverses, conjugates, commutators, images (invert, conjugate, commutator, imageBy, unitVector).
  Conditions: the tail at the level is a group.
-/
namespace Go.Proofs.Ytjljbfcdpdckeaa
open Go Go.Pc
section
variable {p : Pr} {i : Nat} [hcon : Con p i]
theorem one_of_zero {x : T p i} (h : ∀ t, t < p.n → x.v.getD t 0 = 0) : x = 1 :=
  T.ext (inr_ext x.inr hcon.valid.zeros_in fun t ht => by rw [h t ht]; exact (zeros_getD _ _).symm)
set_option maxHeartbeats 2000000 in
theorem invert_ok {w : World} {vp va : Value} {x : T p i} {xs : List Int} {lo hi lo1 hi1 : Nat} [hp : PresP lo hi w vp p] [hx : Ints lo1 hi1 w va xs] (hxs : xs = x.v) :
    Calls Try.prog 142 #[vp, va] w (Ret fun v w' => Ext w w' ∧ Fr w.heap.size w' v (x⁻¹).v) := by
  subst hxs
  have hv := hcon.valid
  have hn6 := hv.n6
  have hxl := x.inr.len
  replace hp := hp.wide
  replace hx := hx.wide
  refine enter (args := [vp, va]) (l := [.tmp 4]) Try.func142 rfl rfl Try.ntmps142 (by simp) ?_
  refine go ?_
  refine rc (cloneI_ok (xs := x.v) (by omega)) (next := fun v1 w1 h4 => ?_)
  obtain ⟨he1, hf1⟩ := h4
  refine go ?_
  refine st_make_int (by ((try simp only [ev_tmp, ev_const, ev_func, get_put, get_args, get_putL, get_putL_nil, Nat.reduceEqDiff, reduceIte, List.getD_cons_zero, List.getD_cons_succ, List.getD_nil]); first | done | with_reducible rfl)) (by ((try simp only [ev_tmp, ev_const, ev_func, get_put, get_args, get_putL, get_putL_nil, Nat.reduceEqDiff, reduceIte, List.getD_cons_zero, List.getD_cons_succ, List.getD_nil]); first | done | with_reducible rfl)) (by omega) (by omega) (by first | exact True.intro | exact ⟨_, rfl, by ((try simp only [ev_tmp, ev_const, ev_func, get_put, get_args, get_putL, get_putL_nil, Nat.reduceEqDiff, reduceIte, List.getD_cons_zero, List.getD_cons_succ, List.getD_nil, Bool.not_true, Bool.not_false]); first | done | with_reducible rfl)⟩) fun w2 v2 he2 hs2 ho2 => ?_
  have hfi := hf1.ints
  by_cases hn : p.n = 0
  · have hx0 := el0 hn x
    refine go ?_
    refine r_for 0 (fun k ρ w' => Has ρ [(6, v2), (14, .int .i64 x.v.length), (15, .int .i64 k)] ∧ Ext w2 w') ?_ ?_
    · refine ⟨?_, Ext.refl _⟩
      exact hasP
    rintro k ρ w3 hk ⟨hH, he3⟩
    refine rwp_has hH fun ρ0 => ?_
    refine go ?_
    refine c_if (fun h4 => ?_) (fun h4 => ?_)
    · omega
    · refine go ?_
      refine ret1 ⟨(he1.trans he2).trans he3, ?_⟩
      have h5 := ho2.toFr (lo := w.heap.size) he1.size
      rw [el0 hn x⁻¹]
      rw [hx0] at h5
      exact h5.ext' he3
  · obtain ⟨te, b1, hb1, ho1⟩ := hf1.own (by intro e; rw [e] at hxl; simp at hxl; omega)
    have hbl := ho1.lt
    have hz1 := he1.size
    have ho2' : ∃ b2, b2 ≠ b1 ∧ w.heap.size ≤ b2 ∧ OwnI 2 b2 w2 v2 (1 : T p i).v := ⟨_, by omega, hz1, by rw [hxl] at ho2; exact ho2⟩
    clear ho2
    obtain ⟨b2, hb21, hb2, ho2⟩ := ho2'
    have ap1 : Apart 0 w.heap.size b1 := ⟨.inr hb1⟩
    have ap2 : Apart 0 w.heap.size b2 := ⟨.inr hb2⟩
    have ho1' : OwnI te b1 w2 v1 (x * 1).v := by rw [Grp.mul_one]; exact OwnI.ext (h := ho1)
    clear ho1 hfi hf1
    have hxl1 := (x * 1).inr.len
    refine go ?_
    refine r_for p.n (fun k ρ w' => ∃ z xs zs, Has ρ [(0, vp), (5, v1), (6, v2), (14, .int .i64 p.n), (15, .int .i64 k)] ∧ Ext w w' ∧ OwnI te b1 w' v1 xs ∧ OwnI 2 b2 w' v2 zs ∧ xs = (x * z).v ∧ zs = T.v (p := p) (i := i) z ∧ ∀ t, t < k → (x * z).v.getD t 0 = 0) ?_ ?_
    · refine ⟨1, _, _, ?_, he1.trans he2, ho1', ho2, rfl, rfl, fun t ht => by omega⟩
      exact hasP
    rintro k ρ w3 hk ⟨z, xs3, zs3, hH3, he3, ho13, ho23, hxs3, hzs3, hz3⟩
    refine rwp_has hH3 fun ρ0 => ?_
    clear ho1' ho2
    refine go ?_
    refine c_if (fun h4 => ?_) (fun h4 => ?_)
    · have hkn : k < p.n := by omega
      have hok := hv.opos hkn
      refine go ?_
      refine r_loop (fun m ρ w' => ∃ z xs zs, Has ρ [(0, vp), (5, v1), (6, v2), (7, .int .i64 k), (14, .int .i64 p.n), (15, .int .i64 k)] ∧ Ext w w' ∧ OwnI te b1 w' v1 xs ∧ OwnI 2 b2 w' v2 zs ∧ xs = (x * z).v ∧ zs = T.v (p := p) (i := i) z ∧ (∀ t, t < k → (x * z).v.getD t 0 = 0) ∧
        m = if xs.getD k 0 = 0 then 0 else (p.o k - xs.getD k 0).toNat) (if xs3.getD k 0 = 0 then 0 else (p.o k - xs3.getD k 0).toNat) ?_ ?_
      · refine ⟨z, xs3, zs3, ?_, he3, ho13, ho23, hxs3, hzs3, hz3, rfl⟩
        exact hasP
      clear ho13 ho23 hz3 hxs3 hzs3
      rintro m ρ w4 ⟨z, xs4, zs4, hH4, he4, ho14, ho24, hxs4, hzs4, hz4, hm⟩
      refine rwp_has hH4 fun ρ1 => ?_
      have hxr := (x * z).inr.rng k hkn
      have hxl4 : xs4.length = p.n := by rw [hxs4]; exact (x * z).inr.len
      rw [← hxs4] at hxr
      refine go ?_
      refine c_if (fun h5 => ?_) (fun h5 => ?_)
      · rw [if_neg h5] at hm
        have hik : i ≤ k := by
          by_cases h : i ≤ k
          · exact h
          · exact absurd (by rw [hxs4]; exact (x * z).zu k (by omega)) h5
        have hco := co_gen ⟨hik, hkn⟩ (x * z)
        refine go ?_
        refine rc (timesGenerator_ok k (x := x * z) hik hkn rfl hxs4) (next := fun v5 w5 h6 => ?_)
        obtain ⟨hc5, ho15⟩ := h6
        have ho25 := ho24.chg' hc5 hb21
        have he5 := hc5.ext he4 hb1
        clear ho14 ho24 hc5
        refine go ?_
        refine rc (timesGenerator_ok k (x := z) hik hkn rfl hzs4) (next := fun v6 w6 h7 => ?_)
        obtain ⟨hc6, ho26⟩ := h7
        have ho16 := ho15.chg' hc6 (fun e => hb21 e.symm)
        have he6 := hc6.ext he5 hb2
        clear ho15 ho25 hc6
        refine go ?_
        refine loopQ_normal ?_ ⟨z * gOf p i k, _, _, ?_, he6, ho16, ho26, by rw [Grp.mul_assoc], rfl, fun t ht => ?_, rfl⟩
        · rw [hco.2, ← hxs4, hm]
          by_cases h8 : xs4.getD k 0 + 1 = p.o k
          · rw [if_pos (by rw [h8, Int.emod_self])]; omega
          · rw [Int.emod_eq_of_lt (by omega) (by omega), if_neg (by omega)]; omega
        · exact hasP
        · rw [← Grp.mul_assoc, hco.1 t ht]; exact hz4 t ht
      · refine go ?_
        refine forQ_normal (by omega) ⟨z, xs4, zs4, ?_, he4, ho14, ho24, hxs4, hzs4, fun t ht => ?_⟩
        · exact hasP
        · by_cases e : t = k
          · subst e; rw [← hxs4]; exact Decidable.not_not.1 h5
          · exact hz4 t (by omega)
    · obtain rfl : k = p.n := by omega
      refine go ?_
      have h5 := Grp.eq_inv_of_mul' (one_of_zero hz3)
      refine ret1 ⟨he3, ?_⟩
      rw [← h5, ← hzs3]
      exact ho23.toFr hb2
set_option maxHeartbeats 1000000 in
theorem conjugate_ok {w : World} {vp va vb : Value} {x y : T p i} {xs ys : List Int} {lo hi lo1 hi1 lo2 hi2 : Nat} [hp : PresP lo hi w vp p] [hx : Ints lo1 hi1 w va xs] [hy : Ints lo2 hi2 w vb ys] (hi' : i ≤ p.n) (hxs : xs = x.v) (hys : ys = y.v) :
    Calls Try.prog 91 #[vp, va, vb] w (Ret fun v w' => Ext w w' ∧ Fr w.heap.size w' v (Grp.cj x y).v) := by
  refine enter (args := [vp, va, vb]) (l := [.tmp 6]) Try.func91 rfl rfl Try.ntmps91 (by simp) ?_
  refine go ?_
  refine rc (invert_ok (x := y) hys) (next := fun v1 w1 h4 => ?_)
  obtain ⟨he1, hf1⟩ := h4
  refine go ?_
  refine rc (multiply_ok (x := x) (y := y) hi' hxs hys) (next := fun v2 w2 h5 => ?_)
  obtain ⟨he2, hf2⟩ := h5
  refine go ?_
  refine rc (multiply_ok (x := y⁻¹) (y := x * y) (xs := (y⁻¹).v) (ys := (x * y).v) hi' rfl rfl) (next := fun v3 w3 h6 => ?_)
  obtain ⟨he3, hf3⟩ := h6
  refine go ?_
  have hE := he1.trans he2
  exact ret1 ⟨hE.trans he3, hf3.mono hE.size⟩
end
set_option maxHeartbeats 1000000 in
theorem imageBy_ok {p : Pr} {i : Nat} [hcon : Con p (i + 1)] (hi' : i < p.n) {w : World} {vp va : Value} {xs : List Int} {ki : Int} {lo hi lo1 hi1 : Nat} [hp : PresP lo hi w vp p] [hx : Ints lo1 hi1 w va xs] (hki : ki = i) (hxr : InR p xs) :
    Calls Try.prog 135 #[vp, .int .i64 ki, va] w (Ret fun v w' => Ext w w' ∧ Fr w.heap.size w' v (img p i xs)) := by
  subst hki
  have hv := hcon.valid
  have hn6 := hv.n6
  have hcl : p.cnj.length = p.n := hv.lenc
  have hci := hv.lenci i hi'
  have hxl := hxr.len
  replace hp := hp.wide
  replace hx := hx.wide
  obtain ⟨g, og, vo, vpw, vc, ps, cs, css, rfl, hg1, hg2, hc0, hc1, hc2, h1, h2, h3⟩ := hp.ex
  refine enter (args := [.pointer (some ⟨g, og, none⟩), .int .i64 i, va]) (l := [.tmp 6]) Try.func135 rfl rfl Try.ntmps135 (by simp) ?_
  refine go ?_
  refine st_make_int (by ((try simp only [ev_tmp, ev_const, ev_func, get_put, get_args, get_putL, get_putL_nil, Nat.reduceEqDiff, reduceIte, List.getD_cons_zero, List.getD_cons_succ, List.getD_nil]); first | done | with_reducible rfl)) (by ((try simp only [ev_tmp, ev_const, ev_func, get_put, get_args, get_putL, get_putL_nil, Nat.reduceEqDiff, reduceIte, List.getD_cons_zero, List.getD_cons_succ, List.getD_nil]); first | done | with_reducible rfl)) (by omega) (by omega) (by first | exact True.intro | exact ⟨_, rfl, by ((try simp only [ev_tmp, ev_const, ev_func, get_put, get_args, get_putL, get_putL_nil, Nat.reduceEqDiff, reduceIte, List.getD_cons_zero, List.getD_cons_succ, List.getD_nil, Bool.not_true, Bool.not_false]); first | done | with_reducible rfl)⟩) fun w1 v1 he1 hs1 ho1 => ?_
  have hz : Fr w.heap.size w1 v1 (1 : T p (i + 1)).v := by
    have := ho1.toFr (Nat.le_refl w.heap.size)
    rw [hxl] at this; exact this
  clear ho1
  refine go ?_
  refine r_for (p.n - (i + 1)) (fun k ρ w' => Has ρ [(0, .pointer (some ⟨g, og, none⟩)), (1, .int .i64 i), (2, va), (7, v1), (19, Pc.rowAt vc cs i), (20, .int .i64 (p.cnj.getD i []).length), (21, .int .i64 k)] ∧ Ext w w' ∧ Fr w.heap.size w' v1 (phi (cOf p i) xs (i + 1) k).v) ?_ ?_
  · refine ⟨?_, he1, hz⟩
    exact hasP
  rintro k ρ w2 hk ⟨hH2, he2, hf2⟩
  refine rwp_has hH2 fun ρ0 => ?_
  refine go ?_
  refine c_if (fun h4 => ?_) (fun h4 => ?_)
  · have hkn : i + 1 + k < p.n := by omega
    have hxk := hxr.rng (i + 1 + k) hkn
    have hok := hv.opos hkn
    refine go ?_
    refine r_for (xs.getD (i + 1 + k) 0).toNat (fun q ρ w' => Has ρ [(0, .pointer (some ⟨g, og, none⟩)), (1, .int .i64 i), (2, va), (7, v1), (9, Pc.rowAt (Pc.rowAt vc cs i) (css.getD i []) k), (19, Pc.rowAt vc cs i), (20, .int .i64 (p.cnj.getD i []).length), (21, .int .i64 k), (32, .int .i64 (xs.getD (i + 1 + k) 0)), (33, .int .i64 q)] ∧ Ext w w' ∧
      Fr w.heap.size w' v1 (phi (cOf p i) xs (i + 1) k * Grp.pw (cOf p i (i + 1 + k)) q).v) ?_ ?_
    · refine ⟨?_, he2, ?_⟩
      · exact hasP
      · rw [Grp.pw_zero, Grp.mul_one]; exact hf2
    clear he2 hf2
    rintro q ρ w3 hq ⟨hH3, he3, hf3⟩
    refine rwp_has hH3 fun ρ1 => ?_
    have hcv : (p.cnj.getD i []).getD k [] = (cOf p i (i + 1 + k)).v := by
      have : cOf p i (i + 1 + k) = _ := dif_pos ⟨by omega, hkn⟩
      rw [this]
      show _ = p.c i (i + 1 + k)
      unfold Pr.c
      rw [show i + 1 + k - i - 1 = k by omega]
    refine go ?_
    refine c_if (fun h5 => ?_) (fun h5 => ?_)
    · refine go ?_
      refine rc (timesVectorF_ok (x := phi (cOf p i) xs (i + 1) k * Grp.pw (cOf p i (i + 1 + k)) q) (y := cOf p i (i + 1 + k)) he3 hf3 (by omega) rfl hcv) (next := fun v4 w4 h6 => ?_)
      obtain ⟨he4, hf4⟩ := h6
      refine go ?_
      refine forQ_normal (by omega) ⟨?_, he4, ?_⟩
      · exact hasP
      · rw [Grp.pw_succ, ← Grp.mul_assoc]; exact hf4
    · refine go ?_
      refine forQ_normal (by omega) ⟨?_, he3, ?_⟩
      · exact hasP
      · rw [phi_last, ← show q = (xs.getD (i + 1 + k) 0).toNat by omega]; exact hf3
  · obtain rfl : k = p.n - (i + 1) := by omega
    refine go ?_
    refine ret1 ⟨he2, ?_⟩
    have hin := imgTo_in hv (atv_in hv _ (i + 1) rfl) xs (p.n - (i + 1)) (Nat.le_refl _)
    have h5 := imgTo_phi xs (p.n - (i + 1)) (Nat.le_refl _) hin.1 hin.2
    rw [← h5] at hf2
    rw [img_eq]; exact hf2
set_option maxHeartbeats 400000 in
theorem unitVector_ok {w : World} {n i : Nat} {kn ki : Int} (hkn : kn = n) (hki : ki = i) (hn : n ≤ 2000000) (hi : i < n) :
    Calls Try.prog 136 #[.int .i64 kn, .int .i64 ki] w (Ret fun v' w' => Ext w w' ∧ Fr w.heap.size w' v' ((zeros n).set i 1)) := by
  subst hkn hki
  refine enter (args := [.int .i64 n, .int .i64 i]) (l := [.tmp 4]) Try.func136 rfl rfl Try.ntmps136 (by simp) ?_
  refine go ?_
  refine st_make_int (by ((try simp only [ev_tmp, ev_const, ev_func, get_put, get_args, get_putL, get_putL_nil, Nat.reduceEqDiff, reduceIte, List.getD_cons_zero, List.getD_cons_succ, List.getD_nil]); first | done | with_reducible rfl)) (by ((try simp only [ev_tmp, ev_const, ev_func, get_put, get_args, get_putL, get_putL_nil, Nat.reduceEqDiff, reduceIte, List.getD_cons_zero, List.getD_cons_succ, List.getD_nil]); first | done | with_reducible rfl)) (by omega) (by omega) (by first | exact True.intro | exact ⟨_, rfl, by ((try simp only [ev_tmp, ev_const, ev_func, get_put, get_args, get_putL, get_putL_nil, Nat.reduceEqDiff, reduceIte, List.getD_cons_zero, List.getD_cons_succ, List.getD_nil, Bool.not_true, Bool.not_false]); first | done | with_reducible rfl)⟩) fun w1 v1 he1 hs1 ho1 => ?_
  have hlen : (List.replicate n (0 : Int)).length = n := by simp
  refine go ?_
  refine st_store_int (by ((try simp only [ev_tmp, ev_const, ev_func, get_put, get_args, get_putL, get_putL_nil, Nat.reduceEqDiff, reduceIte, List.getD_cons_zero, List.getD_cons_succ, List.getD_nil]); first | done | with_reducible rfl)) (by ((try simp only [ev_tmp, ev_const, ev_func, get_put, get_args, get_putL, get_putL_nil, Nat.reduceEqDiff, reduceIte, List.getD_cons_zero, List.getD_cons_succ, List.getD_nil]); first | done | with_reducible rfl)) ?_ (by first | exact True.intro | exact ⟨_, rfl, by ((try simp only [ev_tmp, ev_const, ev_func, get_put, get_args, get_putL, get_putL_nil, Nat.reduceEqDiff, reduceIte, List.getD_cons_zero, List.getD_cons_succ, List.getD_nil, Bool.not_true, Bool.not_false]); first | done | with_reducible rfl)⟩) fun w2 hc2 hs2 ho2 => ?_
  · omega
  refine go ?_
  exact ret1 ⟨hc2.ext he1 (Nat.le_refl _), ho2.toFr (Nat.le_refl _)⟩
end Go.Proofs.Ytjljbfcdpdckeaa

/-
  A list that is appended to at its end and shortened at its front: a slice of the call's own, from some place of its block on.
  Conditions: none; nothing of the program stands here.
-/
namespace Go.Pc
open Go Go.RowKit
class OwnQ (e base : outParam Nat) (w : World) (v : Value) (us : outParam (List Value)) : Prop where
  ex : (v = nilv ∧ us = []) ∨ ∃ g off cap cur, v = .slice (some ⟨g, off, none⟩) us.length cap ∧ base ≤ g ∧ w.heap[g]? = some (.cells cur e (0, 0)) ∧ us.length ≤ cap ∧ cap ≤ maxLen ∧ off + cap ≤ cur.size ∧ (cur.toList.drop off).take us.length = us
section
variable {e base lo hi : Nat} {w w' : World} {v : Value} {us : List Value} {xss : List (List Int)} {av av' : Nat → Prop}
theorem add_lit (g o n : Nat) : (Addr.mk g o none).add n = ⟨g, o + n, none⟩ := by unfold Addr.add; split <;> simp_all
theorem OwnQ.lt (h : OwnQ e base w v us) : ∀ k, v.ownBlock = some k → base ≤ k ∧ k < w.heap.size := by
  intro k hk
  rcases h.ex with ⟨rfl, _⟩ | ⟨g, off, cap, cur, rfl, hb, hg, _⟩
  · cases hk
  · have : g = k := by simpa [Value.ownBlock] using hk
    subst this
    exact ⟨hb, (Array.getElem?_eq_some_iff.1 hg).1⟩
theorem OwnQ.keep (h : OwnQ e base w v us) (hb : ∀ k, v.ownBlock = some k → w'.heap[k]? = w.heap[k]?) : OwnQ e base w' v us := by
  rcases h.ex with h | ⟨g, off, cap, cur, rfl, hb', hg, h1, h2, h3, h4⟩
  · exact ⟨.inl h⟩
  · exact ⟨.inr ⟨g, off, cap, cur, rfl, hb', by rw [hb g rfl]; exact hg, h1, h2, h3, h4⟩⟩
instance (priority := low) OwnQ.ext [x : Ext w w'] [h : OwnQ e base w v us] : OwnQ e base w' v us := h.keep fun k hk => x.below.block k (h.lt k hk).2
theorem OwnQ.other {b : Nat} (h : OwnQ e base w v us) (c : Chg b w w') (hb : v.ownBlock ≠ some b) : OwnQ e base w' v us :=
  h.keep fun k hk => c.by_.block k (h.lt k hk).2 (fun e => hb (by rw [hk, e]))
theorem OwnQ.toSl (h : OwnQ e base w v us) : Sl base w.heap.size w v us := by
  rcases h.ex with ⟨rfl, rfl⟩ | ⟨g, off, cap, cur, rfl, hb, hg, h1, h2, h3, h4⟩
  · exact ⟨⟨none, 0, rfl, Nat.le_refl _, by omega, fun k u hu => by simp at hu⟩⟩
  · have hlt : g < w.heap.size := (Array.getElem?_eq_some_iff.1 hg).1
    refine ⟨⟨some ⟨g, off, none⟩, cap, rfl, h1, by simp only [maxLen] at h2; omega, fun k u hu => ⟨_, rfl, hb, hlt, ?_⟩⟩⟩
    rw [add_lit, cell_of_row w g (off + k) cur e (0, 0) hg]
    rw [← h4, List.getElem?_take, List.getElem?_drop] at hu
    split at hu
    · simpa using hu
    · cases hu
theorem cut_block (v : Value) (l h : Nat) : (cut v l h).ownBlock = v.ownBlock := by
  unfold cut
  split
  · rename_i a _ c
    unfold sliced
    split
    · cases a <;> rfl
    · cases a <;> simp [Value.ownBlock, add_block]
  · rfl
/-- The front is cut off. -/
theorem OwnQ.tail {u : Value} (h : OwnQ e base w v (u :: us)) : OwnQ e base w (cut v 1 (us.length + 1)) us := by
  rcases h.ex with ⟨_, h⟩ | ⟨g, off, cap, cur, rfl, hb, hg, h1, h2, h3, h4⟩
  · cases h
  · simp only [List.length_cons] at h1 h4
    have h5 : (cur.toList.drop (off + 1)).take us.length = us := by
      have e1 : cur.toList.drop (off + 1) = (cur.toList.drop off).drop 1 := by rw [List.drop_drop]
      have e2 : ((cur.toList.drop off).drop 1).take us.length = ((cur.toList.drop off).take (us.length + 1)).drop 1 := by rw [List.drop_take]; simp
      rw [e1, e2, h4]; rfl
    refine ⟨.inr ?_⟩
    by_cases hc : cap = 1
    · have hz : us = [] := List.eq_nil_of_length_eq_zero (by omega)
      subst hz
      refine ⟨g, off, 0, cur, ?_, hb, hg, Nat.le_refl _, by simp [maxLen], by omega, by simp⟩
      simp [cut, sliced, hc]
    · refine ⟨g, off + 1, cap - 1, cur, ?_, hb, hg, by omega, by omega, by omega, h5⟩
      simp [cut, sliced, hc, add_lit]
variable {P : Program} {ty : TypeId}
structure QLst (e base : Nat) (av : Nat → Prop) (w : World) (v : Value) (us : List Value) (xss : List (List Int)) : Prop where
  own : OwnQ e base w v us
  rows : RowsAp (fun g => av g ∨ v.ownBlock = some g) w us xss
  free : ∀ g, v.ownBlock = some g → ¬ av g
  bd : ∀ g, av g → g < w.heap.size
theorem QLst.len (h : QLst e base av w v us xss) : us.length = xss.length := h.rows.len
theorem QLst.lt (h : QLst e base av w v us xss) {g : Nat} (hg : v.ownBlock = some g) : base ≤ g ∧ g < w.heap.size := h.own.lt g hg
theorem QLst.ext (h : QLst e base av w v us xss) (x : Ext w w') : QLst e base av w' v us xss := by
  have := h.own
  exact ⟨inferInstance, h.rows.ext x, h.free, fun g hg => Nat.lt_of_lt_of_le (h.bd g hg) x.size⟩
theorem QLst.chg {g : Nat} (h : QLst e base av w v us xss) (c : Chg g w w') (hg : av g) : QLst e base av w' v us xss :=
  ⟨h.own.other c (fun e => h.free g e hg), h.rows.chg c (.inl hg), h.free, fun g hg => Nat.lt_of_lt_of_le (h.bd g hg) c.size⟩
theorem QLst.toRows (h : QLst e base av w v us xss) : Rows 0 w.heap.size w v us xss := h.rows.rows h.own.toSl
theorem QLst.tail {u : Value} {xs : List Int} (h : QLst e base av w v (u :: us) (xs :: xss)) : QLst e base av w (cut v 1 (us.length + 1)) us xss :=
  ⟨h.own.tail, by rw [cut_block]; exact h.rows.tail, by rw [cut_block]; exact h.free, h.bd⟩
theorem QLst.push {v' u : Value} {xs : List Int} (h : QLst e base av w v us xss) (hu : IntsAp (fun g => av g ∨ v.ownBlock = some g) w u xs)
    (ho : OwnQ e base w' v' (us ++ [u])) (hg : w.grownBy w' v.ownBlock) (hv : v'.ownBlock = v.ownBlock ∨ v'.ownBlock = some w.heap.size) : QLst e base av w' v' (us ++ [u]) (xss ++ [xs]) := by
  refine ⟨ho, ?_, fun g hg' => ?_, fun g hg' => Nat.lt_of_lt_of_le (h.bd g hg') hg.size⟩
  · have h1 : RowsAp (fun g => (av g ∨ v.ownBlock = some g) ∨ v'.ownBlock = some g) w (us ++ [u]) (xss ++ [xs]) := by
      refine (h.rows.push hu).weak fun g hg' => ?_
      rcases hg' with hg' | hg'
      · exact .inl hg'
      · rcases hv with e | e
        · exact .inl (.inr (by rw [← e]; exact hg'))
        · rw [e] at hg'; injection hg' with hg'; exact .inr (by omega)
    refine (h1.grown hg (fun g e => .inl (.inr e))).weak fun g hg' => .inl ?_
    exact hg'.imp .inl id
  · rcases hv with e | e
    · exact h.free g (by rw [← e]; exact hg')
    · rw [e] at hg'; injection hg' with hg'
      intro ha
      have := h.bd g ha
      omega
end
section
variable {P : Program} {N : Nat} {ops : Array Oper} {π : List Nat} {K : Env → World → Prop} {ρ : Env} {w w0 : World} {l : List Oper}
variable {i : Nat} {ty : TypeId} {pos : String} {after : Array Edge} {g : Option (Nat × Bool)} {d : Nat}
end
end Go.Pc

/-
  Tables as lists of lists: what the programs keep of a table, and the canonical list out of it.
  Conditions: the tails at all levels are groups; nothing of the program stands here.
-/
namespace Go.Pc
open Grp
section
variable {p : Pr}
/-- A row of a table: the element, or nothing. -/
def rowOf (t : Tab p) (d : Nat) : List Int := match t d with | none => [] | some y => y.v
def tabL (t : Tab p) : List (List Int) := (List.range p.n).map (rowOf t)
theorem Tl.pwz [hc : ConAll p] {x : El p} {d : Nat} (hd : d ≤ p.n) (hx : Tl d x) (k : Int) : Tl d (Grp.pwz x k) := by
  unfold Grp.pwz
  split
  · exact hx.inv.pw hd _
  · exact hx.pw hd _
theorem co_pwz [hc : ConAll p] {x : El p} {d : Nat} (hd : d < p.n) (hx : Tl d x) (k : Int) : co (Grp.pwz x k) d = (k * co x d) % p.o d := by
  unfold Grp.pwz
  split
  · rename_i h
    rw [co_pw hd hx.inv, Int.toNat_of_nonneg (by omega), Int.emod_eq_emod_iff_emod_sub_eq_zero]
    have h1 := co_inv hd hx
    have e : -k * co x⁻¹ d - k * co x d = (co x⁻¹ d + co x d) * -k := by
      rw [Int.add_mul, Int.mul_comm (co x⁻¹ d), Int.mul_neg (co x d), Int.mul_comm (co x d)]; omega
    rw [e, Int.mul_emod, h1, Int.zero_mul, Int.zero_emod]
  · rw [co_pw hd hx, Int.toNat_of_nonneg (by omega)]
theorem strip_step [hc : ConAll p] {r y : El p} {d : Nat} (hd : d < p.n) (hr : Tl d r) (hy : Tl d y) (hl : co y d = 1) : Tl (d + 1) (r * Grp.pwz y (-(co r d))) := by
  have hz := hy.pwz (by omega) (-(co r d))
  refine (hr.mul (by omega) hz).succ ?_
  rw [co_at _ hd hz, co_pwz hd hy, hl, Int.mul_one, Int.add_emod_emod, Int.add_right_neg, Int.zero_emod]
end
end Go.Pc

/-
  The canonical sequence out of a full table, from the last depth to the first; the number of empty places of a table.
  Conditions: the tails at all levels are groups; nothing of the program stands here.
-/
namespace Go.Pc
open Grp
section
variable {p : Pr} [hc : ConAll p]
open Classical in
noncomputable def canT (H : El p → Prop) : Tab p := fun d => if h : ∃ x, CanAt H d x then some (Classical.choose h) else none
theorem canT_some {H : El p → Prop} {d : Nat} {x : El p} (h : canT H d = some x) : CanAt H d x := by
  unfold canT at h
  split at h
  · rename_i hx; injection h with h; subst h; exact Classical.choose_spec hx
  · cases h
theorem canT_eq {H : El p → Prop} (hH : Sub H) {d : Nat} {x : El p} (h : CanAt H d x) : canT H d = some x := by
  have he : ∃ x, CanAt H d x := ⟨x, h⟩
  unfold canT
  rw [dif_pos he, (Classical.choose_spec he).unique hH h]
theorem canF_map (H : El p → Prop) (d : Nat) : canF H d = (canT H d).map (·.v) := by
  unfold canF canT
  split <;> rfl
theorem Dep.lt {H : El p → Prop} {d : Nat} (h : Dep H d) : d < p.n := by
  obtain ⟨x, _, _, h0⟩ := h
  by_cases hd : d < p.n
  · exact hd
  · exact absurd (by unfold co; rw [List.getD_eq_getElem?_getD, List.getElem?_eq_none (by rw [x.inr.len]; omega)]; rfl) h0
theorem CanAt.lt {H : El p → Prop} {d : Nat} {x : El p} (h : CanAt H d x) : d < p.n := h.dep.lt
theorem Full.dep {t : Tab p} (hf : Full t) {d : Nat} : Dep (Gen (Ents t)) d ↔ t d ≠ none := by
  constructor
  · rintro ⟨x, h1, h2, h3⟩ e
    obtain ⟨y, hy⟩ := hf.some_of h1 h2 h3
    rw [e] at hy; cases hy
  · intro h
    cases e : t d with
    | none => exact absurd e h
    | some y => exact ⟨y, .of _ ⟨d, e⟩, hf.ok.tl d y e, by rw [hf.ok.lead d y e]; omega⟩
/-- A table from a depth on. -/
def Tab.fr (t : Tab p) (d : Nat) : Tab p := fun e => if d ≤ e then t e else none
/-- x lies in H, has depth d and leading exponent 1, and its coordinates behind d and ahead of e are zero at the depths of H. -/
structure CanTo (H : El p → Prop) (d e : Nat) (x : El p) : Prop where
  mem : H x
  tl : Tl d x
  lead : co x d = 1
  zero : ∀ k, d < k → k < e → Dep H k → co x k = 0
variable {H : El p → Prop} {d e : Nat} {x z : El p}
theorem CanTo.skip (h : CanTo H d e x) (h0 : co x e = 0 ∨ ¬ Dep H e) : CanTo H d (e + 1) x :=
  ⟨h.mem, h.tl, h.lead, fun k h1 h2 h3 => by
    by_cases ek : k = e
    · subst ek; exact h0.resolve_right fun h => h h3
    · exact h.zero k h1 (by omega) h3⟩
theorem CanTo.step (hH : Sub H) (h : CanTo H d e x) (hde : d < e) (he : e < p.n) (hz : H z) (hzt : Tl e z) (hz1 : co z e = 1) : CanTo H d (e + 1) (x * pwz z (-(co x e))) := by
  have hp := hzt.pwz (by omega) (-(co x e))
  refine ⟨hH.mul _ _ h.mem (hH.pwz hz _), h.tl.mul (by omega) (hp.mono (by omega)), ?_, fun k h1 h2 h3 => ?_⟩
  · rw [co_low _ he hp hde]; exact h.lead
  · by_cases ek : k = e
    · subst ek
      rw [co_at _ he hp, co_pwz he hzt, hz1, Int.mul_one, Int.add_emod_emod, Int.add_right_neg, Int.zero_emod]
    · rw [co_low _ he hp (by omega)]; exact h.zero k h1 (by omega) h3
theorem CanTo.can (h : CanTo H d p.n x) : CanAt H d x :=
  ⟨h.mem, h.tl, h.lead, fun e he hne => by
    by_cases h1 : e < d
    · exact h.tl e h1
    · exact h.zero e (by omega) he.lt he⟩
theorem Full.canTo {t : Tab p} (hf : Full t) {y : El p} (h : t d = some y) : CanTo (Gen (Ents t)) d (d + 1) y :=
  ⟨.of _ ⟨d, h⟩, hf.ok.tl d y h, hf.ok.lead d y h, fun k h1 h2 => by omega⟩
/-- The canonical sequence ahead of a depth. -/
noncomputable def canTo (H : El p → Prop) (d : Nat) : List (List Int) := (List.range d).filterMap (canF H)
theorem canTo_len (H : El p → Prop) (d : Nat) : (canTo H d).length ≤ d := by
  unfold canTo; exact Nat.le_trans (List.length_filterMap_le _ _) (by simp)
/-! the number of empty places -/
end
end Go.Pc

/-
  Lists of vectors that are canonical sequences of subgroups.
  Conditions: the tails at all levels are groups; nothing of the program stands here.
-/
namespace Go.Pc
open Grp
section
variable {p : Pr}
abbrev vecs (ys : List (El p)) : List (List Int) := ys.map (T.v (p := p) (i := 0))
theorem vecs_inj {ys zs : List (El p)} (h : vecs ys = vecs zs) : ys = zs :=
  (List.map_inj_right fun a b h => T.ext h).1 h
variable [hc : ConAll p]
noncomputable def canEls (H : El p → Prop) : List (El p) := (List.range p.n).filterMap (canT H)
theorem canon_vecs (H : El p → Prop) : canon H = vecs (canEls H) := by
  unfold canon canEls vecs
  rw [List.map_filterMap]
  congr 1
  funext d
  exact canF_map H d
/-- The canonical sequence from a depth on. -/
noncomputable def canElsF (H : El p → Prop) (d : Nat) : List (El p) := (List.range' d (p.n - d)).filterMap (canT H)
theorem canElsF_zero (H : El p → Prop) : canElsF H 0 = canEls H := by unfold canElsF canEls; rw [Nat.sub_zero, List.range_eq_range']
theorem canElsF_mem {H : El p → Prop} {d : Nat} {x : El p} : x ∈ canElsF H d ↔ ∃ e, d ≤ e ∧ e < p.n ∧ canT H e = some x := by
  unfold canElsF
  rw [List.mem_filterMap]
  constructor
  · rintro ⟨e, h1, h2⟩
    rw [List.mem_range'_1] at h1
    exact ⟨e, h1.1, by omega, h2⟩
  · rintro ⟨e, h1, h2, h3⟩
    exact ⟨e, List.mem_range'_1.2 ⟨h1, by omega⟩, h3⟩
theorem canElsF_len (H : El p → Prop) (d : Nat) : (canElsF H d).length ≤ p.n - d := by
  unfold canElsF; exact Nat.le_trans (List.length_filterMap_le _ _) (by simp)
/-- A canonical sequence of a subgroup. -/
def IsSeq (p : Pr) [ConAll p] (xss : List (List Int)) : Prop := ∃ ys : List (El p), xss = vecs ys ∧ canon (Gen (fun a : El p => a ∈ ys)) = xss
theorem IsSeq.len {xss : List (List Int)} (h : IsSeq p xss) : xss.length ≤ p.n := by
  obtain ⟨ys, _, h⟩ := h
  rw [← h]; exact canTo_len _ _
end
end Go.Pc

/-
  Walk: the reference's IsPresentation.
  Conditions: the presentation reads as three lists, the first of at most a million entries.
-/
namespace Go.Proofs.Ytjljbfcdpdckeaa
open Go Go.Pc
theorem exp_iff {p : Pr} {v : List Int} {i : Nat} : ExpP p.ord v (i : Int) ↔ InR p v ∧ ZU (i + 1) v := by
  constructor
  · rintro ⟨h1, h2⟩
    refine ⟨⟨h1, fun k hk => ?_⟩, fun k hk => ?_⟩
    · have := (h2 k (by rw [h1]; exact hk)).1
      unfold Pr.o; omega
    · by_cases hl : k < v.length
      · exact (h2 k hl).2 (by omega)
      · rw [List.getD_eq_getElem?_getD, List.getElem?_eq_none (by omega)]; rfl
  · rintro ⟨h1, h2⟩
    refine ⟨h1.len, fun k hk => ⟨?_, fun h => h2 k (by omega)⟩⟩
    have := h1.rng k (by rw [← h1.len]; exact hk)
    unfold Pr.o at this; omega
/-- What is asked of one generator's row. -/
def RowOk (p : Pr) (q : Nat) : Prop := ExpP p.ord (p.pow.getD q []) q ∧ ((p.cnj.getD q []).length : Int) = p.n - 1 - q ∧ ∀ j, j < (p.cnj.getD q []).length → ExpP p.ord ((p.cnj.getD q []).getD j []) q
theorem valid_iff {p : Pr} : Valid p ↔ p.n ≤ 6 ∧ p.pow.length = p.n ∧ p.cnj.length = p.n ∧ (∀ i, i < p.n → p.ord.getD i 0 = 2 ∨ p.ord.getD i 0 = 3 ∨ p.ord.getD i 0 = 5 ∨ p.ord.getD i 0 = 7) ∧ p.ord.foldl (· * ·) 1 ≤ 729 ∧ ∀ q, q < p.n → RowOk p q := by
  constructor
  · intro h
    refine ⟨h.n6, h.lenw, h.lenc, h.prime, h.prod, fun q hq => ⟨exp_iff.2 ⟨h.w_in q hq, h.w_zu q hq⟩, ?_, fun j hj => ?_⟩⟩
    · have := h.lenci q hq; omega
    · have hl := h.lenci q hq
      have h1 := h.c_in q (q + 1 + j) (by omega) (by omega)
      have h2 := h.c_zu q (q + 1 + j) (by omega) (by omega)
      unfold Pr.c at h1 h2
      rw [show q + 1 + j - q - 1 = j by omega] at h1 h2
      exact exp_iff.2 ⟨h1, h2⟩
  · rintro ⟨h1, h2, h3, h4, h5, h6⟩
    have hc : ∀ i j, i < j → j < p.n → InR p (p.c i j) ∧ ZU (i + 1) (p.c i j) := fun i j hij hj => by
      have := h6 i (by omega)
      exact exp_iff.1 (this.2.2 (j - i - 1) (by have := this.2.1; omega))
    refine ⟨h1, h2, h3, fun i hi => by have := (h6 i hi).2.1; omega, h4, h5, fun i hi => (exp_iff.1 (h6 i hi).1).1, fun i hi => (exp_iff.1 (h6 i hi).1).2, fun i j a b => (hc i j a b).1, fun i j a b => (hc i j a b).2⟩
theorem primes_bd {p : Pr} (h4 : ∀ i, i < p.n → p.ord.getD i 0 = 2 ∨ p.ord.getD i 0 = 3 ∨ p.ord.getD i 0 = 5 ∨ p.ord.getD i 0 = 7) : ∀ o ∈ p.ord, 1 ≤ o ∧ o ≤ 7 := by
  intro o ho
  obtain ⟨i, hi, rfl⟩ := List.getElem_of_mem ho
  have := h4 i hi
  simp [List.getD_eq_getElem?_getD, hi] at this
  omega
set_option maxHeartbeats 2000000 in
theorem spec_IsPresentation_ok {w : World} {v : Value} {p : Pr} {lo hi : Nat} [hp : Pres lo hi w v p] (hl : p.ord.length ≤ 2000000) :
    Calls Try.prog 85 #[v] w (Ret fun v' w' => ∃ b, v' = .bool b ∧ (b = true ↔ Valid p) ∧ Ext w w') := by
  have hol : p.ord.length = p.n := rfl
  obtain ⟨vo, vpw, vc, ps, cs, css, rfl, h1, h2, h3⟩ := hp.ex
  refine enter (args := [.agg #[vo, vpw, vc]]) (l := [.tmp 2]) Try.func85 rfl rfl Try.ntmps85 (by simp) ?_
  refine go ?_
  refine st_box3 (by ((try simp only [ev_tmp, ev_const, ev_func, get_put, get_args, get_putL, get_putL_nil, Nat.reduceEqDiff, reduceIte, List.getD_cons_zero, List.getD_cons_succ, List.getD_nil]); first | done | with_reducible rfl)) (by first | exact True.intro | exact ⟨_, rfl, by ((try simp only [ev_tmp, ev_const, ev_func, get_put, get_args, get_putL, get_putL_nil, Nat.reduceEqDiff, reduceIte, List.getD_cons_zero, List.getD_cons_succ, List.getD_nil, Bool.not_true, Bool.not_false]); first | done | with_reducible rfl)⟩) fun w1 b he1 hb1 hs1 hc0 hc1 hc2 => ?_
  have no : ∀ {w' : World}, ¬ Valid p → Ext w w' → ∃ b, Value.bool false = .bool b ∧ (b = true ↔ Valid p) ∧ Ext w w' := fun h he => ⟨_, rfl, by simp [h], he⟩
  refine go ?_
  refine spd (fun hn => ?_) (fun hn => ?_)
  · refine go ?_
    exact ret1 (no (fun h => by have := h.n6; omega) he1)
  refine go ?_
  refine spd (fun hn2 => ?_) (fun hn2 => ?_)
  · refine go ?_
    exact ret1 (no (fun h => by have := h.lenw; omega) he1)
  refine go ?_
  refine c_if (fun hn3 => ?_) (fun hn3 => ?_)
  · refine go ?_
    exact ret1 (no (fun h => by have := h.lenc; omega) he1)
  refine go ?_
  refine r_for p.n (fun k ρ w' => Has ρ [(1, .pointer (some ⟨b, 0, none⟩)), (3, .int .i64 p.n), (4, .int .i64 k)] ∧ Ext w1 w' ∧ ∀ i, i < k → p.ord.getD i 0 = 2 ∨ p.ord.getD i 0 = 3 ∨ p.ord.getD i 0 = 5 ∨ p.ord.getD i 0 = 7) ?_ ?_
  · refine ⟨?_, Ext.refl _, fun i hi => by omega⟩
    exact hasP
  · rintro k ρ w2 hk ⟨hH, he2, hpre⟩
    refine rwp_has hH fun ρ0 => ?_
    refine go ?_
    refine c_if (fun hk1 => ?_) (fun hk1 => ?_)
    · refine go ?_
      refine rc l01Prime_ok (next := fun v3 w3 h3 => ?_)
      obtain ⟨b3, rfl, hb3, he3⟩ := h3
      refine go ?_
      refine c_b (fun h4 => ?_) (fun h4 => ?_)
      · refine go ?_
        refine ret1 (no (fun h => ?_) ((he1.trans he2).trans he3))
        have := hb3.2 (h.prime k (by omega))
        rw [this] at h4; cases h4
      · refine go ?_
        have h5 := hb3.1 (by simpa using h4)
        refine forQ_normal (by omega) ⟨?_, he2.trans he3, fun i hi => ?_⟩
        · exact hasP
        · by_cases e : i = k
          · subst e; exact h5
          · exact hpre i (by omega)
    · refine go ?_
      have hkn : k = p.n := by omega
      subst hkn
      have hbd := primes_bd hpre
      refine rc (l07Product_ok (xs := p.ord) hbd hl) (next := fun v3 w3 h3 => ?_)
      obtain ⟨rfl, he3⟩ := h3
      have hcap := capMul_foldl p.ord 1 (fun o ho => (hbd o ho).1) (by omega)
      have hcb := capMul_bd p.ord 1 hbd (by omega) (by omega)
      refine go ?_
      refine c_if (fun h4 => ?_) (fun h4 => ?_)
      · refine go ?_
        refine ret1 (no (fun h => ?_) ((he1.trans he2).trans he3))
        have := hcap.1.2 h.prod
        omega
      · have hprod := hcap.1.1 (by omega)
        have hbd' : ∀ i, i < p.ord.length → 0 ≤ p.ord.getD i 0 ∧ p.ord.getD i 0 ≤ 2000000 := fun i hi => by have := hpre i hi; omega
        clear hcap hcb
        refine go ?_
        have he13 : Ext w1 w3 := he2.trans he3
        refine r_for p.n (fun k ρ w' => Has ρ [(1, .pointer (some ⟨b, 0, none⟩)), (3, .int .i64 p.n), (5, .int .i64 k)] ∧ Ext w1 w' ∧ ∀ q, q < k → RowOk p q) ?_ ?_
        · refine ⟨?_, he13, fun i hi => by omega⟩
          exact hasP
        · clear he3 he13
          rintro k ρ w4 hk ⟨hH, he4, hrow⟩
          refine rwp_has hH fun ρ1 => ?_
          refine go ?_
          refine c_if (fun hk2 => ?_) (fun hk2 => ?_)
          · refine go ?_
            refine d_region fun w5 he5 _ => ?_
            refine dgo ?_
            refine dc (l07Exponents_ok (xs := p.pow.getD k []) hbd' hl) (next := fun v6 w6 h6 => ?_)
            obtain ⟨b6, rfl, hb6, he6⟩ := h6
            refine ⟨fun h => h.trans he6, ?_⟩
            have he16 := (he4.trans he5).trans he6
            refine da (next := ?_)
            refine da (next := ?_)
            refine dsp (fun h7 => ?_) (fun h7 => ?_)
            · refine dgo ?_
              refine d_end (h := ?_)
              refine go ?_
              refine ret1 (no (fun h => ?_) (he1.trans he16))
              have := hb6.2 ((valid_iff.1 h).2.2.2.2.2 k (by omega)).1
              rw [this] at h7; cases h7
            · have h8 := hb6.1 (by simpa using h7)
              refine dgo ?_
              refine d_end (h := ?_)
              refine go ?_
              refine c_if (fun h9 => ?_) (fun h9 => ?_)
              · refine go ?_
                refine ret1 (no (fun h => ?_) (he1.trans he16))
                have := ((valid_iff.1 h).2.2.2.2.2 k (by omega)).2.1
                omega
              · refine go ?_
                refine r_for (p.cnj.getD k []).length (fun m ρ w' => Has ρ [(1, .pointer (some ⟨b, 0, none⟩)), (3, .int .i64 p.n), (5, .int .i64 k), (6, .int .i64 m)] ∧ Ext w1 w' ∧ ∀ j, j < m → ExpP p.ord ((p.cnj.getD k []).getD j []) k) ?_ ?_
                · refine ⟨?_, he16, fun i hi => by omega⟩
                  exact hasP
                · clear he4 he5 he6 he16
                  rintro m ρ w7 hm ⟨hH, he7, hin⟩
                  refine rwp_has hH fun ρ2 => ?_
                  refine go ?_
                  refine c_if (fun hm2 => ?_) (fun hm2 => ?_)
                  · refine go ?_
                    refine d_region fun w8 he8 _ => ?_
                    refine dgo ?_
                    refine dc (l07Exponents_ok (xs := (p.cnj.getD k []).getD m []) hbd' hl) (next := fun v9 w9 h9 => ?_)
                    obtain ⟨b9, rfl, hb9, he9⟩ := h9
                    refine ⟨fun h => h.trans he9, ?_⟩
                    refine dgo ?_
                    refine d_end (h := ?_)
                    refine go ?_
                    refine c_b (fun h10 => ?_) (fun h10 => ?_)
                    · refine go ?_
                      refine ret1 (no (fun h => ?_) (he1.trans ((he7.trans he8).trans he9)))
                      have := hb9.2 (((valid_iff.1 h).2.2.2.2.2 k (by omega)).2.2 m (by omega))
                      rw [this] at h10; cases h10
                    · have h11 := hb9.1 (by simpa using h10)
                      refine go ?_
                      refine forQ_normal (by omega) ⟨?_, (he7.trans he8).trans he9, fun j hj => ?_⟩
                      · exact hasP
                      · by_cases e : j = m
                        · subst e; exact h11
                        · exact hin j (by omega)
                  · refine go ?_
                    refine forQ_normal (by omega) ⟨?_, he7, fun q hq => ?_⟩
                    · exact hasP
                    · by_cases e : q = k
                      · subst e
                        exact ⟨h8, by omega, fun j hj => hin j (by omega)⟩
                      · exact hrow q (by omega)
          · refine go ?_
            refine ret1 ⟨_, rfl, ?_, he1.trans he4⟩
            simp only [true_iff]
            exact valid_iff.2 ⟨by omega, by omega, by omega, hpre, hprod, fun q hq => hrow q (by omega)⟩
end Go.Proofs.Ytjljbfcdpdckeaa
