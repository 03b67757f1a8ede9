/- What this claim names of the words that its proofs lean on: gathered out of them by a program of this session (shake.py). By an AI agent. -/
/-
  DERIVED: THE SHELF's CONTRACTS AT THIS DUMP, IN PLAIN WORDS (tools/lay-plain.mjs out of 'TryShelf.lean', which tools/lay-shelf.mjs wrote): THE SAME DECLARATIONS UNDER THE SAME NAMES: 'import', 'namespace', 'open', 'def', 'theorem' AND NOTHING ELSE: no command of the shelf's: FOR A HAND-IN. Each laying: the table of numbers ('.._ren') and one theorem, a field a fact of the dump's own or the kernel's comparison; each contract: ONE APPLICATION.
-/
import Derived.Shelf.Strings.Builder1
import Derived.Shelf.Strings.Builder2
import Derived.Shelf.Strings.BuilderF
import Derived.Shelf.Strings.BuilderK
import Derived.Shelf.Strings.Prefix
import Derived.Shelf.Bits.Mul64
import Derived.Shelf.Strings.Repeat
import Derived.Ground.Names2Prog
import Derived.Shelf.Slices.Clone
import Derived.Ground.SlgnProg
import Derived.Shelf.SlicesE.Clone
import Derived.Test.YtefdokolbdnjnaaProg
namespace Go.Proofs
open Go.Shelf
def Try.lays169_ren : Go.Shelf.Ren := ⟨fun | 169 => 71 | n => n, fun | 70 => 97 | 9 => 9 | 0 => 0 | 72 => 99 | 37 => 93 | 127 => 122 | 3 => 3 | 5 => 5 | n => n, fun | n => n⟩
theorem Try.lays169 : Go.Proofs.Lays.n169 Try.prog Try.lays169_ren := {
  mixed := by kernel_rfl
  f169 := Try.func71.trans (congrArg some (by kernel_rfl))
  t0 := Try.underlying0
  a0 := Try.isAgg0
  z0 := Try.sizeOf0
  v0 := Try.zeroValue0
  t3 := Try.underlying3
  a3 := Try.isAgg3
  z3 := Try.sizeOf3
  v3 := Try.zeroValue3
  t9 := Try.underlying9
  a9 := Try.isAgg9
  z9 := Try.sizeOf9
  v9 := Try.zeroValue9
  t37 := Try.underlying93
  a37 := Try.isAgg93
  z37 := Try.sizeOf93
  v37 := Try.zeroValue93
  t70 := Try.underlying97
  a70 := Try.isAgg97
  z70 := Try.sizeOf97
  v70 := Try.zeroValue97
  t72 := Try.underlying99
  a72 := Try.isAgg99
  z72 := Try.sizeOf99
  v72 := Try.zeroValue99
  t127 := Try.underlying122
  a127 := Try.isAgg122
  z127 := Try.sizeOf122
  v127 := Try.zeroValue122 }
theorem Try.Builder_Extra_169 : Builder.Extra Try.prog Try.lays169_ren := {
  sizeBuilder := by kernel_rfl
  liesBuilder := by kernel_rfl
  t5 := Try.underlying5
  a5 := Try.isAgg5
  z5 := Try.sizeOf5
  v5 := Try.zeroValue5
  infoByte := by kernel_rfl
  cellsByte := by kernel_rfl
  sizeByte := by kernel_rfl
  neB5 := by decide }
open Go.RowKit in
/-- (*strings.Builder).String: "String returns the accumulated string.": WHATEVER THE BUILDER HOLDS. (LAID: no walk: one application.) -/
theorem Try.Builder_String_any (B b : Nat) (l : List UInt8) (w : World) (h : Lib.IsBuilder 99 5 B b (Lib.byteCells l) w) (hBw : B ≤ w.heap.size) :
    Calls Try.prog 71 #[.pointer (some ⟨b, 0, none⟩)] w fun e w' => e = .returned (.string ⟨l.toArray⟩) ∧ Below B w w' := Any.Builder_String_any Try.lays169 Try.Builder_Extra_169 B b l w h hBw
def Try.lays105_ren : Go.Shelf.Ren := ⟨fun | 105 => 68 | 212 => 86 | 99 => 87 | 165 => 88 | 166 => 89 | 170 => 90 | 169 => 71 | 263 => 96 | 264 => 97 | 206 => 98 | 240 => 92 | 241 => 99 | 276 => 101 | 277 => 103 | n => n, fun | 9 => 9 | 3 => 3 | 4 => 4 | 20 => 20 | 0 => 0 | 46 => 96 | 109 => 116 | 5 => 5 | 72 => 99 | 76 => 119 | 51 => 23 | 146 => 129 | 53 => 90 | 148 => 131 | 70 => 97 | 37 => 93 | 75 => 101 | 127 => 122 | 164 => 133 | 80 => 103 | n => n, fun | n => n⟩
theorem Try.lays105 : Go.Proofs.Lays.n105 Try.prog Try.lays105_ren := {
  mixed := by kernel_rfl
  f99 := Try.func87.trans (congrArg some (by kernel_rfl))
  f105 := Try.func68.trans (congrArg some (by kernel_rfl))
  f165 := Try.func88.trans (congrArg some (by kernel_rfl))
  f166 := Try.func89.trans (congrArg some (by kernel_rfl))
  f169 := Try.func71.trans (congrArg some (by kernel_rfl))
  f170 := Try.func90.trans (congrArg some (by kernel_rfl))
  f206 := Try.func98.trans (congrArg some (by kernel_rfl))
  f212 := Try.func86.trans (congrArg some (by kernel_rfl))
  f240 := Try.func92.trans (congrArg some (by kernel_rfl))
  f241 := Try.func99.trans (congrArg some (by kernel_rfl))
  f263 := Try.func96.trans (congrArg some (by kernel_rfl))
  f264 := Try.func97.trans (congrArg some (by kernel_rfl))
  f276 := Try.func101.trans (congrArg some (by kernel_rfl))
  f277 := Try.func103.trans (congrArg some (by kernel_rfl))
  t0 := Try.underlying0
  a0 := Try.isAgg0
  z0 := Try.sizeOf0
  v0 := Try.zeroValue0
  t3 := Try.underlying3
  a3 := Try.isAgg3
  z3 := Try.sizeOf3
  v3 := Try.zeroValue3
  t4 := Try.underlying4
  a4 := Try.isAgg4
  z4 := Try.sizeOf4
  v4 := Try.zeroValue4
  t5 := Try.underlying5
  a5 := Try.isAgg5
  z5 := Try.sizeOf5
  v5 := Try.zeroValue5
  t9 := Try.underlying9
  a9 := Try.isAgg9
  z9 := Try.sizeOf9
  v9 := Try.zeroValue9
  t20 := Try.underlying20
  a20 := Try.isAgg20
  z20 := Try.sizeOf20
  v20 := Try.zeroValue20
  t37 := Try.underlying93
  a37 := Try.isAgg93
  z37 := Try.sizeOf93
  v37 := Try.zeroValue93
  t46 := Try.underlying96
  a46 := Try.isAgg96
  z46 := Try.sizeOf96
  v46 := Try.zeroValue96
  t51 := Try.underlying23
  a51 := Try.isAgg23
  z51 := Try.sizeOf23
  v51 := Try.zeroValue23
  t53 := Try.underlying90
  a53 := Try.isAgg90
  z53 := Try.sizeOf90
  v53 := Try.zeroValue90
  t70 := Try.underlying97
  a70 := Try.isAgg97
  z70 := Try.sizeOf97
  v70 := Try.zeroValue97
  t72 := Try.underlying99
  a72 := Try.isAgg99
  z72 := Try.sizeOf99
  v72 := Try.zeroValue99
  t75 := Try.underlying101
  a75 := Try.isAgg101
  z75 := Try.sizeOf101
  v75 := Try.zeroValue101
  t76 := Try.underlying119
  a76 := Try.isAgg119
  z76 := Try.sizeOf119
  v76 := Try.zeroValue119
  t109 := Try.underlying116
  a109 := Try.isAgg116
  z109 := Try.sizeOf116
  v109 := Try.zeroValue116
  t127 := Try.underlying122
  a127 := Try.isAgg122
  z127 := Try.sizeOf122
  v127 := Try.zeroValue122
  t146 := Try.underlying129
  a146 := Try.isAgg129
  z146 := Try.sizeOf129
  v146 := Try.zeroValue129
  t148 := Try.underlying131
  a148 := Try.isAgg131
  z148 := Try.sizeOf131
  v148 := Try.zeroValue131
  t164 := Try.underlying133
  a164 := Try.isAgg133
  z164 := Try.sizeOf133
  v164 := Try.zeroValue133 }
theorem Try.Builder_Extra_105 : Builder.Extra Try.prog Try.lays105_ren := {
  sizeBuilder := by kernel_rfl
  liesBuilder := by kernel_rfl
  t5 := Try.underlying5
  a5 := Try.isAgg5
  z5 := Try.sizeOf5
  v5 := Try.zeroValue5
  infoByte := by kernel_rfl
  cellsByte := by kernel_rfl
  sizeByte := by kernel_rfl
  neB5 := by decide }
open Go.RowKit Go.Lib in
/-- **strings.Repeat: count ≥ 0, the result within one allocation: count copies of s.** (LAID: no walk: one application.) -/
theorem Try.strings_Repeat (s : ByteArray) (c : Nat) (w : World) (hc : c ≤ 9223372036854775807) (hlen : s.size * c ≤ 140737488355328) :
    Calls Try.prog 68 #[.string s, .int .i64 c] w fun e w' => e = .returned (.string ⟨(Lib.repeatL s.data.toList c).toArray⟩) ∧ Below w.heap.size w w' := Any.strings_Repeat Try.lays105 Try.Builder_Extra_105 s c w hc hlen
def Try.laysNm216_ren : Go.Shelf.Ren := ⟨fun | 16 => 75 | n => n, fun | 24 => 37 | 9 => 9 | 4 => 4 | n => n, fun | n => n⟩
theorem Try.laysNm216 : Go.Proofs.Lays2.n16 Try.prog Try.laysNm216_ren := {
  mixed := by kernel_rfl
  f16 := Try.func75.trans (congrArg some (by kernel_rfl))
  t4 := Try.underlying4
  a4 := Try.isAgg4
  z4 := Try.sizeOf4
  v4 := Try.zeroValue4
  t9 := Try.underlying9
  a9 := Try.isAgg9
  z9 := Try.sizeOf9
  v9 := Try.zeroValue9
  t24 := Try.underlying37
  a24 := Try.isAgg37
  z24 := Try.sizeOf37
  v24 := Try.zeroValue37
  i9 := by kernel_rfl }
open Go.RowKit Go.Lib in
/-- slices.Clone at []string: "Clone returns a copy of the slice. The elements are copied using assignment, so this is a shallow clone. The result may have additional unused capacity. The result preserves the nilness of s.": OF A SLICE THAT IS NOT nil IT RETURNS A SLICE THAT IS NOT nil, OF THE SAME ELEMENTS, IN MEMORY OF THE CALL's OWN: in the how-to's words (6f): 'w'.ownsRow B e 1 v' n cells': v' begins at the head of a row among the blocks from B on (B: the heap's size at the call), not frozen, whose first cells are the elements · 'Below B w w'': below B all is as it was. The capacity is whatever the run-time gives. 'zs': what the cells behind the slice's address hold; 'zs.take n': its elements. (LAID: no walk: one application.) -/
theorem Try.slices_Clone_string (b off n c : Nat) (zs : List ByteArray) (w : World) (hz : n ≤ zs.length) (hbig : n * 16 ≤ 140737488355328) (hc : ∀ j, j < zs.length → w.cell? ⟨b, off + j, none⟩ = some (.string (zs.getD j ByteArray.empty))) :
    Calls Try.prog 75 #[.slice (some ⟨b, off, none⟩) n c] w fun e w' => ∃ v', e = .returned v' ∧ w'.ownsRow w.heap.size 9 1 v' n ((zs.take n).map (Value.string)) ∧ v' ≠ .slice none 0 0 ∧ Below w.heap.size w w' := Any.slices_Clone_string Try.laysNm216 b off n c zs w hz hbig hc
open Go.RowKit Go.Lib in
/-- The same at nil: nil comes back; the world is as it was. (LAID: no walk: one application.) -/
theorem Try.slices_Clone_string_nil (n c : Nat) (w : World) :
    Calls Try.prog 75 #[.slice none n c] w fun e w' => e = .returned (.slice none 0 0) ∧ w' = w := Any.slices_Clone_string_nil Try.laysNm216 n c w
open Go.RowKit Go.Lib in
/-- The same at a slice of length 0 that is not nil, WHATEVER ITS ADDRESS (no cell is asked for): a slice that is not nil and owns nothing comes back. (LAID: no walk: one application.) -/
theorem Try.slices_Clone_string_zero (a : Addr) (c : Nat) (w : World) :
    Calls Try.prog 75 #[.slice (some a) 0 c] w fun e w' => ∃ v', e = .returned v' ∧ w'.ownsRow w.heap.size 9 1 v' 0 [] ∧ v' ≠ .slice none 0 0 ∧ Below w.heap.size w w' := Any.slices_Clone_string_zero Try.laysNm216 a c w
end Go.Proofs

