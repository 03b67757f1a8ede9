/- What this claim names of the words that its proofs lean on: gathered out of them by a program of this session (shake.py). By an AI agent. -/
/-
  DERIVED: THE SHELF's CONTRACTS AT THIS DUMP, IN PLAIN WORDS (tools/lay-plain.mjs out of 'TryShelf.lean', which tools/lay-shelf.mjs wrote): THE SAME DECLARATIONS UNDER THE SAME NAMES: 'import', 'namespace', 'open', 'def', 'theorem' AND NOTHING ELSE: no command of the shelf's: FOR A HAND-IN. Each laying: the table of numbers ('.._ren') and one theorem, a field a fact of the dump's own or the kernel's comparison; each contract: ONE APPLICATION.
-/
import Derived.Shelf.Strings.Builder1
import Derived.Shelf.Strings.Builder2
import Derived.Shelf.Strings.BuilderF
import Derived.Shelf.Strings.BuilderK
import Derived.Shelf.Strings.Prefix
import Derived.Shelf.Bits.Mul64
import Derived.Shelf.Strings.Repeat
import Derived.Ground.Names2Prog
import Derived.Shelf.Slices.Clone
import Derived.Test.YtdppmkcahfjceaaProg
namespace Go.Proofs
open Go.Shelf
def Try.lays105_ren : Go.Shelf.Ren := ⟨fun | 105 => 146 | 212 => 173 | 99 => 174 | 165 => 175 | 166 => 176 | 170 => 177 | 169 => 178 | 263 => 193 | 264 => 194 | 206 => 195 | 240 => 196 | 241 => 197 | 276 => 200 | 277 => 201 | n => n, fun | 9 => 9 | 3 => 3 | 4 => 4 | 20 => 20 | 0 => 0 | 46 => 142 | 109 => 197 | 5 => 5 | 72 => 201 | 76 => 205 | 51 => 135 | 146 => 218 | 53 => 55 | 148 => 220 | 70 => 199 | 37 => 97 | 75 => 204 | 127 => 222 | 164 => 226 | 80 => 208 | n => n, fun | n => n⟩
theorem Try.lays105 : Go.Proofs.Lays.n105 Try.prog Try.lays105_ren := {
  mixed := by kernel_rfl
  f99 := Try.func174.trans (congrArg some (by kernel_rfl))
  f105 := Try.func146.trans (congrArg some (by kernel_rfl))
  f165 := Try.func175.trans (congrArg some (by kernel_rfl))
  f166 := Try.func176.trans (congrArg some (by kernel_rfl))
  f169 := Try.func178.trans (congrArg some (by kernel_rfl))
  f170 := Try.func177.trans (congrArg some (by kernel_rfl))
  f206 := Try.func195.trans (congrArg some (by kernel_rfl))
  f212 := Try.func173.trans (congrArg some (by kernel_rfl))
  f240 := Try.func196.trans (congrArg some (by kernel_rfl))
  f241 := Try.func197.trans (congrArg some (by kernel_rfl))
  f263 := Try.func193.trans (congrArg some (by kernel_rfl))
  f264 := Try.func194.trans (congrArg some (by kernel_rfl))
  f276 := Try.func200.trans (congrArg some (by kernel_rfl))
  f277 := Try.func201.trans (congrArg some (by kernel_rfl))
  t0 := Try.underlying0
  a0 := Try.isAgg0
  z0 := Try.sizeOf0
  v0 := Try.zeroValue0
  t3 := Try.underlying3
  a3 := Try.isAgg3
  z3 := Try.sizeOf3
  v3 := Try.zeroValue3
  t4 := Try.underlying4
  a4 := Try.isAgg4
  z4 := Try.sizeOf4
  v4 := Try.zeroValue4
  t5 := Try.underlying5
  a5 := Try.isAgg5
  z5 := Try.sizeOf5
  v5 := Try.zeroValue5
  t9 := Try.underlying9
  a9 := Try.isAgg9
  z9 := Try.sizeOf9
  v9 := Try.zeroValue9
  t20 := Try.underlying20
  a20 := Try.isAgg20
  z20 := Try.sizeOf20
  v20 := Try.zeroValue20
  t37 := Try.underlying97
  a37 := Try.isAgg97
  z37 := Try.sizeOf97
  v37 := Try.zeroValue97
  t46 := Try.underlying142
  a46 := Try.isAgg142
  z46 := Try.sizeOf142
  v46 := Try.zeroValue142
  t51 := Try.underlying135
  a51 := Try.isAgg135
  z51 := Try.sizeOf135
  v51 := Try.zeroValue135
  t53 := Try.underlying55
  a53 := Try.isAgg55
  z53 := Try.sizeOf55
  v53 := Try.zeroValue55
  t70 := Try.underlying199
  a70 := Try.isAgg199
  z70 := Try.sizeOf199
  v70 := Try.zeroValue199
  t72 := Try.underlying201
  a72 := Try.isAgg201
  z72 := Try.sizeOf201
  v72 := Try.zeroValue201
  t75 := Try.underlying204
  a75 := Try.isAgg204
  z75 := Try.sizeOf204
  v75 := Try.zeroValue204
  t76 := Try.underlying205
  a76 := Try.isAgg205
  z76 := Try.sizeOf205
  v76 := Try.zeroValue205
  t109 := Try.underlying197
  a109 := Try.isAgg197
  z109 := Try.sizeOf197
  v109 := Try.zeroValue197
  t127 := Try.underlying222
  a127 := Try.isAgg222
  z127 := Try.sizeOf222
  v127 := Try.zeroValue222
  t146 := Try.underlying218
  a146 := Try.isAgg218
  z146 := Try.sizeOf218
  v146 := Try.zeroValue218
  t148 := Try.underlying220
  a148 := Try.isAgg220
  z148 := Try.sizeOf220
  v148 := Try.zeroValue220
  t164 := Try.underlying226
  a164 := Try.isAgg226
  z164 := Try.sizeOf226
  v164 := Try.zeroValue226 }
theorem Try.Builder_Extra_105 : Builder.Extra Try.prog Try.lays105_ren := {
  sizeBuilder := by kernel_rfl
  liesBuilder := by kernel_rfl
  t5 := Try.underlying5
  a5 := Try.isAgg5
  z5 := Try.sizeOf5
  v5 := Try.zeroValue5
  infoByte := by kernel_rfl
  cellsByte := by kernel_rfl
  sizeByte := by kernel_rfl
  neB5 := by decide }
open Go.RowKit Go.Lib in
/-- **strings.Repeat: count ≥ 0, the result within one allocation: count copies of s.** (LAID: no walk: one application.) -/
theorem Try.strings_Repeat (s : ByteArray) (c : Nat) (w : World) (hc : c ≤ 9223372036854775807) (hlen : s.size * c ≤ 140737488355328) :
    Calls Try.prog 146 #[.string s, .int .i64 c] w fun e w' => e = .returned (.string ⟨(Lib.repeatL s.data.toList c).toArray⟩) ∧ Below w.heap.size w w' := Any.strings_Repeat Try.lays105 Try.Builder_Extra_105 s c w hc hlen
end Go.Proofs

