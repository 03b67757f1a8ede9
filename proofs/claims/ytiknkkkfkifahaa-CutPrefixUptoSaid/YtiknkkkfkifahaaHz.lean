import Derived.Lib.EndianBits
import Derived.Laws.BitsAllLaws
import Derived.RowKit
import Derived.Test.YtiknkkkfkifahaaProg
import Derived.Test.YtiknkkkfkifahaaWWords
import Derived.Test.YtiknkkkfkifahaaWLast
import Derived.Test.YtiknkkkfkifahaaWTab
import Derived.WalkKit
import Derived.IntWalk
import Derived.Lib.Hide
import Derived.Deep.WholeRow
import Derived.WalkMore
import Derived.Outline
import Derived.Laws.CopyOwn
import Derived.Test.YtiknkkkfkifahaaWMore
import Derived.StillTailTactics
import Derived.Deep.CutRange
import Derived.Deep.QuietTactic
import Derived.BigQuiet
import Derived.LoopTactic
import Derived.Test.YtiknkkkfkifahaaShelf
import Derived.Lib.Repeat
section
/-
  The digest, plain: words turned, the schedule, a round, a state behind a block, a text made longer, bytes in digits. No program. By an AI agent.
-/
namespace Go.Proofs.Ytiknkkkfkifahaa.Sm
open Go Go.RowKit

/-- a word turned right by k -/
def rotI (x : Int) (k : Nat) : Int := bits .or .u32 (IntKind.u32.wrap (x * 2 ^ (32 - k))) (x / 2 ^ k)
def U (x : Int) : Prop := 0 ≤ x ∧ x < 4294967296
theorem U.wrap (n : Int) : U (IntKind.u32.wrap n) := by rw [IntKind.wrap_u32]; unfold U; omega
theorem wrap_id {n : Int} (h : U n) : IntKind.u32.wrap n = n := wraps_u32 n h.1 h.2
theorem U.bits (op : BinOp) (x y : Int) (h : op = .and ∨ op = .or ∨ op = .xor) : U (bits op .u32 x y) := by
  rcases h with rfl | rfl | rfl <;> exact U.wrap _
theorem U.div {x : Int} (h : U x) (k : Nat) : U (x / 2 ^ k) := by
  obtain ⟨a, rfl⟩ := Int.eq_ofNat_of_zero_le h.1
  have h2 : a < 4294967296 := by have := h.2; omega
  have := Nat.div_le_self a (2 ^ k)
  constructor
  · exact_mod_cast Nat.zero_le _
  · have h3 : ((a / 2 ^ k : Nat) : Int) < 4294967296 := by omega
    simpa using h3
theorem rotI_U (x : Int) (k : Nat) : U (rotI x k) := U.bits _ _ _ (.inr (.inl rfl))
/-- turned, as a sum -/
theorem rotI_sum {x : Int} (h : U x) (k : Nat) (h1 : 1 ≤ k) (h2 : k ≤ 31) : rotI x k = x / 2 ^ k + (x % 2 ^ k) * 2 ^ (32 - k) := by
  obtain ⟨a, rfl⟩ := Int.eq_ofNat_of_zero_le h.1
  have ha : a < 4294967296 := by have := h.2; omega
  have hp : 2 ^ k * 2 ^ (32 - k) = 4294967296 := by rw [← Nat.pow_add, show k + (32 - k) = 32 by omega]
  have hw : IntKind.u32.wrap ((a : Int) * 2 ^ (32 - k)) = (((a % 2 ^ k) * 2 ^ (32 - k) : Nat) : Int) := by
    rw [IntKind.wrap_u32]
    have e : (a * 2 ^ (32 - k)) % 4294967296 = (a % 2 ^ k) * 2 ^ (32 - k) := by
      rw [← hp, Nat.mul_mod_mul_right]
    rw [← e]
    simp
  have hm : a % 2 ^ k < 2 ^ k := Nat.mod_lt _ (Nat.two_pow_pos k)
  have hx1 : (a % 2 ^ k) * 2 ^ (32 - k) < 4294967296 := by
    rw [← hp]; exact Nat.mul_lt_mul_of_pos_right hm (Nat.two_pow_pos _)
  have hdv : a / 2 ^ k < 2 ^ (32 - k) := by
    rw [Nat.div_lt_iff_lt_mul (Nat.two_pow_pos k), Nat.mul_comm, hp]; exact ha
  have hdl := Nat.div_le_self a (2 ^ k)
  unfold rotI
  rw [hw]
  have hd : ((a : Int) / 2 ^ k) = ((a / 2 ^ k : Nat) : Int) := by simp
  have hmm : ((a : Int) % 2 ^ k) = ((a % 2 ^ k : Nat) : Int) := by simp
  have w32 : (2 : Int) ^ 32 = 4294967296 := by decide
  have c1 : (((a % 2 ^ k) * 2 ^ (32 - k) : Nat) : Int) % 2 ^ (32 - k) = 0 := by
    have : ((a % 2 ^ k) * 2 ^ (32 - k)) % 2 ^ (32 - k) = 0 := Nat.mul_mod_left _ _
    exact_mod_cast this
  have c2 : (((a % 2 ^ k) * 2 ^ (32 - k) : Nat) : Int) < 2 ^ 32 := by rw [w32]; omega
  have c3 : ((a / 2 ^ k : Nat) : Int) < 2 ^ (32 - k) := by exact_mod_cast hdv
  have c4 : ((a / 2 ^ k : Nat) : Int) < 2 ^ 32 := by rw [w32]; omega
  rw [hd, hmm, bits_join .u32 32 (by decide) wraps_u32 (32 - k) _ _ (Int.natCast_nonneg _) c1 c2 (Int.natCast_nonneg _) c3 c4, Int.add_comm]
  simp only [Int.natCast_mul, Int.natCast_pow, Int.cast_ofNat_Int]
/-- all bits turned round -/
theorem not_u32 {x : Int} (h : U x) : bits .xor .u32 (-1) x = 4294967295 - x := by
  obtain ⟨a, rfl⟩ := Int.eq_ofNat_of_zero_le h.1
  have ha : a < 4294967296 := by have := h.2; omega
  show IntKind.u32.wrap ((BitVec.ofInt 32 (-1) ^^^ BitVec.ofInt 32 (a : Int)).toNat : Int) = _
  have h1 : BitVec.ofInt 32 (-1) = BitVec.allOnes 32 := by decide
  rw [h1, BitVec.allOnes_xor, BitVec.toNat_not, IntKind.wrap_u32]
  simp
  omega
theorem not_max {x : Int} (h : U x) : bits .xor .u32 4294967295 x = 4294967295 - x := by
  rw [← not_u32 h]
  unfold bits
  have e : BitVec.ofInt IntKind.u32.bits 4294967295 = BitVec.ofInt IntKind.u32.bits (-1) := by decide
  rw [e]
/-- four bytes as a word -/
theorem word_join {a b c d : Int} (ha : 0 ≤ a ∧ a ≤ 255) (hb : 0 ≤ b ∧ b ≤ 255) (hc : 0 ≤ c ∧ c ≤ 255) (hd : 0 ≤ d ∧ d ≤ 255) :
    bits .or .u32 (bits .or .u32 (bits .or .u32 (IntKind.u32.wrap (a * 16777216)) (IntKind.u32.wrap (b * 65536))) (IntKind.u32.wrap (c * 256))) d = a * 16777216 + b * 65536 + c * 256 + d := by
  have e1 : IntKind.u32.wrap (a * 16777216) = a * 16777216 := wrap_id ⟨by omega, by omega⟩
  have e2 : IntKind.u32.wrap (b * 65536) = b * 65536 := wrap_id ⟨by omega, by omega⟩
  have e3 : IntKind.u32.wrap (c * 256) = c * 256 := wrap_id ⟨by omega, by omega⟩
  rw [e1, e2, e3]
  have w : (2 : Int) ^ 32 = 4294967296 := by decide
  rw [bits_join .u32 32 (by decide) wraps_u32 24 (a * 16777216) (b * 65536) (by omega) (by rw [show (2 : Int) ^ 24 = 16777216 by decide]; omega) (by omega) (by omega) (by rw [show (2 : Int) ^ 24 = 16777216 by decide]; omega) (by omega)]
  rw [bits_join .u32 32 (by decide) wraps_u32 16 (a * 16777216 + b * 65536) (c * 256) (by omega) (by rw [show (2 : Int) ^ 16 = 65536 by decide]; omega) (by omega) (by omega) (by rw [show (2 : Int) ^ 16 = 65536 by decide]; omega) (by omega)]
  rw [bits_join .u32 32 (by decide) wraps_u32 8 (a * 16777216 + b * 65536 + c * 256) d (by omega) (by rw [show (2 : Int) ^ 8 = 256 by decide]; omega) (by omega) (by omega) (by rw [show (2 : Int) ^ 8 = 256 by decide]; omega) (by omega)]

def firstL : List Int := [1779033703, 3144134277, 1013904242, 2773480762, 1359893119, 2600822924, 528734635, 1541459225]
def wordsL : List Int := [1116352408, 1899447441, 3049323471, 3921009573, 961987163, 1508970993, 2453635748, 2870763221, 3624381080, 310598401, 607225278, 1426881987, 1925078388, 2162078206, 2614888103, 3248222580, 3835390401, 4022224774, 264347078, 604807628, 770255983, 1249150122, 1555081692, 1996064986, 2554220882, 2821834349, 2952996808, 3210313671, 3336571891, 3584528711, 113926993, 338241895, 666307205, 773529912, 1294757372, 1396182291, 1695183700, 1986661051, 2177026350, 2456956037, 2730485921, 2820302411, 3259730800, 3345764771, 3516065817, 3600352804, 4094571909, 275423344, 430227734, 506948616, 659060556, 883997877, 958139571, 1322822218, 1537002063, 1747873779, 1955562222, 2024104815, 2227730452, 2361852424, 2428436474, 2756734187, 3204031479, 3329325298]

/-- a byte of a text -/
def byt (s : ByteArray) (i : Nat) : Int := ((s.data.toList.getD i 0).toNat : Int)
theorem byt_range (s : ByteArray) (i : Nat) : 0 ≤ byt s i ∧ byt s i ≤ 255 := by
  unfold byt
  have := (s.data.toList.getD i 0).toNat_lt
  omega
/-- a block's word -/
def be (s : ByteArray) (i : Nat) : Int := byt s (4 * i) * 16777216 + byt s (4 * i + 1) * 65536 + byt s (4 * i + 2) * 256 + byt s (4 * i + 3)
theorem be_U (s : ByteArray) (i : Nat) : U (be s i) := by
  have h1 := byt_range s (4 * i); have h2 := byt_range s (4 * i + 1); have h3 := byt_range s (4 * i + 2); have h4 := byt_range s (4 * i + 3)
  unfold be U; omega
def s0 (x : Int) : Int := bits .xor .u32 (bits .xor .u32 (rotI x 7) (rotI x 18)) (x / 8)
def s1 (x : Int) : Int := bits .xor .u32 (bits .xor .u32 (rotI x 17) (rotI x 19)) (x / 1024)
def nextW (l : List Int) (i : Nat) : Int := IntKind.u32.wrap (IntKind.u32.wrap (IntKind.u32.wrap (l.getD (i - 16) 0 + s0 (l.getD (i - 15) 0)) + l.getD (i - 7) 0) + s1 (l.getD (i - 2) 0))
def w16 (s : ByteArray) (n : Nat) : List Int := (List.range n).map (be s)
def sched (l : List Int) : Nat → List Int
  | 0 => l
  | n + 1 => sched l n ++ [nextW (sched l n) (16 + n)]
def schedF : Nat → List Int → Nat → List Int
  | 0, l, _ => l
  | n + 1, l, i => schedF n (l ++ [nextW l i]) (i + 1)
structure St where
  a : Int
  b : Int
  c : Int
  d : Int
  e : Int
  f : Int
  g : Int
  h : Int
def St.list (s : St) : List Int := [s.a, s.b, s.c, s.d, s.e, s.f, s.g, s.h]
def St.U (s : St) : Prop := ∀ x ∈ s.list, Sm.U x
def S0 (a : Int) : Int := bits .xor .u32 (bits .xor .u32 (rotI a 2) (rotI a 13)) (rotI a 22)
def S1 (e : Int) : Int := bits .xor .u32 (bits .xor .u32 (rotI e 6) (rotI e 11)) (rotI e 25)
def chI (e f g : Int) : Int := bits .xor .u32 (bits .and .u32 e f) (bits .and .u32 (4294967295 - e) g)
def majI (a b c : Int) : Int := bits .xor .u32 (bits .xor .u32 (bits .and .u32 a b) (bits .and .u32 a c)) (bits .and .u32 b c)
def tI (s : St) (k w : Int) : Int := IntKind.u32.wrap (IntKind.u32.wrap (IntKind.u32.wrap (IntKind.u32.wrap (s.h + S1 s.e) + chI s.e s.f s.g) + k) + w)
def uI (s : St) : Int := IntKind.u32.wrap (S0 s.a + majI s.a s.b s.c)
def rnd (s : St) (k w : Int) : St := ⟨IntKind.u32.wrap (tI s k w + uI s), s.a, s.b, s.c, IntKind.u32.wrap (s.d + tI s k w), s.e, s.f, s.g⟩
def rnds (s : St) (K W : List Int) : Nat → St
  | 0 => s
  | n + 1 => rnd (rnds s K W n) (K.getD n 0) (W.getD n 0)
def addSt (s h : St) : St := ⟨IntKind.u32.wrap (s.a + h.a), IntKind.u32.wrap (s.b + h.b), IntKind.u32.wrap (s.c + h.c), IntKind.u32.wrap (s.d + h.d), IntKind.u32.wrap (s.e + h.e), IntKind.u32.wrap (s.f + h.f), IntKind.u32.wrap (s.g + h.g), IntKind.u32.wrap (s.h + h.h)⟩
def wsOf (b : ByteArray) : List Int := sched (w16 b 16) 48
/-- a state behind a block -/
def mixS (h : St) (b : ByteArray) : St := addSt (rnds h wordsL (wsOf b) 64) h
def firstS : St := ⟨1779033703, 3144134277, 1013904242, 2773480762, 1359893119, 2600822924, 528734635, 1541459225⟩

theorem sched_length (l : List Int) (n : Nat) : (sched l n).length = l.length + n := by
  induction n with
  | zero => rfl
  | succ n ih => simp [sched, ih]; omega
theorem w16_length (s : ByteArray) (n : Nat) : (w16 s n).length = n := by simp [w16]
theorem w16_succ (s : ByteArray) (n : Nat) : w16 s (n + 1) = w16 s n ++ [be s n] := by simp [w16, List.range_succ]
theorem nextW_U (l : List Int) (i : Nat) : U (nextW l i) := U.wrap _
theorem w16_U (s : ByteArray) (n : Nat) : ∀ x ∈ w16 s n, U x := by
  intro x hx
  obtain ⟨i, _, rfl⟩ := List.mem_map.1 hx
  exact be_U s i
theorem sched_U {l : List Int} (h : ∀ x ∈ l, U x) (n : Nat) : ∀ x ∈ sched l n, U x := by
  induction n with
  | zero => exact h
  | succ n ih =>
    intro x hx
    rcases List.mem_append.1 hx with hx | hx
    · exact ih x hx
    · obtain rfl := List.mem_singleton.1 hx
      exact nextW_U _ _
theorem getD_U {l : List Int} (h : ∀ x ∈ l, U x) (i : Nat) : U (l.getD i 0) := by
  rw [List.getD_eq_getElem?_getD]
  cases hi : l[i]? with
  | none => exact ⟨by decide, by decide⟩
  | some x => exact h x (List.mem_of_getElem? hi)
theorem rnd_U {s : St} (h : s.U) (k w : Int) : (rnd s k w).U := by
  have m := fun x hx => h x hx
  intro x hx
  simp only [rnd, St.list, List.mem_cons, List.not_mem_nil, or_false] at hx
  simp only [St.list, List.mem_cons, List.not_mem_nil, or_false] at m
  rcases hx with rfl | rfl | rfl | rfl | rfl | rfl | rfl | rfl
  · exact U.wrap _
  · exact m _ (by simp)
  · exact m _ (by simp)
  · exact m _ (by simp)
  · exact U.wrap _
  · exact m _ (by simp)
  · exact m _ (by simp)
  · exact m _ (by simp)
theorem rnds_U {s : St} (h : s.U) (K W : List Int) (n : Nat) : (rnds s K W n).U := by
  induction n with
  | zero => exact h
  | succ n ih => exact rnd_U ih _ _
theorem addSt_U (s h : St) : (addSt s h).U := by
  intro x hx
  simp only [addSt, St.list, List.mem_cons, List.not_mem_nil, or_false] at hx
  rcases hx with rfl | rfl | rfl | rfl | rfl | rfl | rfl | rfl <;> exact U.wrap _
theorem mixS_U (h : St) (b : ByteArray) : (mixS h b).U := addSt_U _ _

/-! ### A text made longer, its digest, bytes in digits -/
def lenBytes (n : Nat) : List UInt8 := (List.range 8).map fun i => UInt8.ofNat (n * 8 / 256 ^ (7 - i))
def padL (s : ByteArray) : List UInt8 := s.data.toList ++ 128 :: (List.replicate ((119 - s.size % 64) % 64) 0 ++ lenBytes s.size)
def padB (s : ByteArray) : ByteArray := ⟨(padL s).toArray⟩
def foldS : Nat → ByteArray → Nat → St → St
  | 0, _, _, h => h
  | n + 1, p, at_, h => foldS n p (at_ + 64) (mixS h (p.extract at_ (at_ + 64)))
def sumS (s : ByteArray) : St := foldS ((padB s).size / 64) (padB s) 0 firstS
def bytes4 (x : Int) : List UInt8 := [UInt8.ofNat (x / 16777216).toNat, UInt8.ofNat (x / 65536).toNat, UInt8.ofNat (x / 256).toNat, UInt8.ofNat x.toNat]
def sumB (s : ByteArray) : ByteArray := ⟨((sumS s).list.flatMap bytes4).toArray⟩
def digit (n : Nat) : UInt8 := if n < 10 then UInt8.ofNat (48 + n) else UInt8.ofNat (87 + n)
def hexL (l : List UInt8) : List UInt8 := l.flatMap fun b => [digit (b.toNat / 16), digit (b.toNat % 16)]
def hexB (s : ByteArray) : ByteArray := ⟨(hexL s.data.toList).toArray⟩

theorem abc : hexB (sumB "abc".toUTF8) = "ba7816bf8f01cfea414140de5dae2223b00361a396177a9cb410ff61f20015ad".toUTF8 := by decide +kernel
end Go.Proofs.Ytiknkkkfkifahaa.Sm
end
section
/-
  sha: constants, and a word turned. By an AI agent.
-/
namespace Go.Proofs.Ytiknkkkfkifahaa.Sa
open Go.Proofs.Ytiknkkkfkifahaa.Sm
open Go.RowKit Go.Proofs.YtiknkkkfkifahaaW.PrintWords Go.Proofs.YtiknkkkfkifahaaW.PrintLast
set_option linter.unusedVariables false
set_option linter.unusedSimpArgs false

def u32s (l : List Int) : Value := .agg (l.map (Value.int .u32)).toArray

/-- A result that is a whole row (an array) in a block. -/
theorem results_row {P : Program} {fn : Func} {a : Tmp} {t : TypeId} (hr : fn.results = #[.cell a t]) {tmps : Array Value} {W : World} {g : Nat} (ha : tmps.getD a undef = .pointer (some ⟨g, 0, none⟩)) {ty : TypeId} {cs : Array Value} {fr : Nat × Nat} {n : Nat} {e : TypeId} (hg : W.heap[g]? = some (.cells cs ty fr))
    (hu : P.underlying t = some (.array n e)) (hi : (P.info? t).map (·.size) = some cs.size) : (results fn tmps).run P W = .ok (.agg cs) W := by
  have h := run_loadVar_row (P := P) W g ty t cs fr _ hg hu rfl hi
  rw [Array.getD_eq_getD_getElem?] at ha
  unfold results
  rw [hr]
  simp [ha, asAddr, h]
set_option maxHeartbeats 4000000 in
set_option maxRecDepth 100000 in
theorem first_c (w : World) : Calls Try.prog 61 #[] w fun e w' => e = .returned (u32s firstL) ∧ Below w.heap.size w w' := by
  go_enter Try.func61, Try.ntmps61
  go_wp2_with fail
  refine bodyPost_ret (v := u32s firstL) ?_ rfl ⟨rfl, (Below.refl _ _).alloc (Nat.le_refl _) _⟩
  simp [results, Try.results61, go_sem, u32s, firstL]
theorem wpList_store_row {P : Program} (w w' : World) {ops : Array Oper} {rest : List Oper} {o : Oper} {a : Act} {Q : Exit → Act → World → Prop} (hg : o.guard = none) (p v : Operand) (t : TypeId) (hop : o.op = Op.store t p v) (pv vv : Value) (hp : a.eval p = pv) (hv : a.eval v = vv)
    (hr : (Instr.storeAt t pv vv).run P w = .ok () w') (h : wpList P ops Q rest (a.put o.dst undef) w') : wpList P ops Q (o :: rest) a w := by
  refine wpList_plain hg fun K' hK' => ?_
  unfold Oper.wp
  simp [execOp, hop, hp, hv, hr, Result.andThen]
  exact hK' _ _ h
set_option maxHeartbeats 8000000 in
set_option maxRecDepth 100000 in
theorem words_c (w : World) : Calls Try.prog 62 #[] w fun e w' => e = .returned (u32s wordsL) ∧ Below w.heap.size w w' := by
  have hst := Lib.hid (run_storeAt_new (P := Try.prog) w 93 #[.int .u32 0, .int .u32 0, .int .u32 0, .int .u32 0, .int .u32 0, .int .u32 0, .int .u32 0, .int .u32 0, .int .u32 0, .int .u32 0, .int .u32 0, .int .u32 0, .int .u32 0, .int .u32 0, .int .u32 0, .int .u32 0, .int .u32 0, .int .u32 0, .int .u32 0, .int .u32 0, .int .u32 0, .int .u32 0, .int .u32 0, .int .u32 0, .int .u32 0, .int .u32 0, .int .u32 0, .int .u32 0, .int .u32 0, .int .u32 0, .int .u32 0, .int .u32 0, .int .u32 0, .int .u32 0, .int .u32 0, .int .u32 0, .int .u32 0, .int .u32 0, .int .u32 0, .int .u32 0, .int .u32 0, .int .u32 0, .int .u32 0, .int .u32 0, .int .u32 0, .int .u32 0, .int .u32 0, .int .u32 0, .int .u32 0, .int .u32 0, .int .u32 0, .int .u32 0, .int .u32 0, .int .u32 0, .int .u32 0, .int .u32 0, .int .u32 0, .int .u32 0, .int .u32 0, .int .u32 0, .int .u32 0, .int .u32 0, .int .u32 0, .int .u32 0] #[.int .u32 1116352408, .int .u32 1899447441, .int .u32 3049323471, .int .u32 3921009573, .int .u32 961987163, .int .u32 1508970993, .int .u32 2453635748, .int .u32 2870763221, .int .u32 3624381080, .int .u32 310598401, .int .u32 607225278, .int .u32 1426881987, .int .u32 1925078388, .int .u32 2162078206, .int .u32 2614888103, .int .u32 3248222580, .int .u32 3835390401, .int .u32 4022224774, .int .u32 264347078, .int .u32 604807628, .int .u32 770255983, .int .u32 1249150122, .int .u32 1555081692, .int .u32 1996064986, .int .u32 2554220882, .int .u32 2821834349, .int .u32 2952996808, .int .u32 3210313671, .int .u32 3336571891, .int .u32 3584528711, .int .u32 113926993, .int .u32 338241895, .int .u32 666307205, .int .u32 773529912, .int .u32 1294757372, .int .u32 1396182291, .int .u32 1695183700, .int .u32 1986661051, .int .u32 2177026350, .int .u32 2456956037, .int .u32 2730485921, .int .u32 2820302411, .int .u32 3259730800, .int .u32 3345764771, .int .u32 3516065817, .int .u32 3600352804, .int .u32 4094571909, .int .u32 275423344, .int .u32 430227734, .int .u32 506948616, .int .u32 659060556, .int .u32 883997877, .int .u32 958139571, .int .u32 1322822218, .int .u32 1537002063, .int .u32 1747873779, .int .u32 1955562222, .int .u32 2024104815, .int .u32 2227730452, .int .u32 2361852424, .int .u32 2428436474, .int .u32 2756734187, .int .u32 3204031479, .int .u32 3329325298] (by kernel_rfl) rfl (by kernel_rfl))
  go_enter Try.func62, Try.ntmps62
  go_wp2_with (first | (refine wpList_store_row _ _ rfl _ _ 93 rfl _ _ rfl rfl hst.out ?_) | go_in)
  refine bodyPost_ret (v := u32s wordsL) (results_row Try.results62 rfl (blk_new _ _) Try.underlying93 (by kernel_rfl)) rfl ⟨rfl, (Below.refl _ _).alloc (Nat.le_refl _) _⟩
theorem and31 (k : Nat) (h1 : 1 ≤ k) (h2 : k ≤ 31) : bits BinOp.and IntKind.u64 (IntKind.u64.wrap (-(k : Int))) 31 = ((32 - k : Nat) : Int) := by
  have h : ∀ k : Fin 32, 1 ≤ k.1 → bits BinOp.and IntKind.u64 (IntKind.u64.wrap (-(k.1 : Int))) 31 = ((32 - k.1 : Nat) : Int) := by decide +kernel
  exact h ⟨k, by omega⟩ h1
set_option maxHeartbeats 4000000 in
theorem rot_c (x : Int) (k : Nat) (h1 : 1 ≤ k) (h2 : k ≤ 31) (w : World) : Calls Try.prog 84 #[.int .u32 x, .int .i64 (-(k : Int))] w fun e w' => e = .returned (.int .u32 (rotI x k)) ∧ w' = w := by
  have hb := and31 k h1 h2
  obtain ⟨m, hm⟩ : ∃ m, m = 32 - k := ⟨_, rfl⟩
  rw [← hm] at hb
  have g1 : ((m : Int)) ≤ 32 := by omega
  have g0 : (0 : Int) ≤ (m : Int) := by omega
  have hw : IntKind.u64.wrap (32 - (m : Int)) = (k : Int) := by unfold IntKind.wrap; simp only [IntKind.signed, IntKind.bits, Bool.false_and, Bool.false_eq_true, if_false]; omega
  have g3 : ((k : Int)) ≤ 32 := by omega
  have g2 : (0 : Int) ≤ (k : Int) := by omega
  have e1 : rotI x k = bits .or .u32 (IntKind.u32.wrap (x * 2 ^ m)) (x / 2 ^ k) := by unfold rotI; rw [hm]
  rw [e1]
  clear e1 hm h1 h2
  go_enter Try.func84, Try.ntmps84
  go_wp2_with fail
  go_ret
  exact ⟨rfl, rfl⟩
set_option maxHeartbeats 4000000 in
theorem turn_c (x : Int) (k : Nat) (h1 : 1 ≤ k) (h2 : k ≤ 31) (w : World) : Calls Try.prog 74 #[.int .u32 x, .int .i64 k] w fun e w' => e = .returned (.int .u32 (rotI x k)) ∧ w' = w := by
  have H := Lib.hid (rot_c x k h1 h2)
  have hw : wrap64 (-(k : Int)) = -(k : Int) := Go.IntWalk.wrap64_in _ (by omega)
  clear h1 h2
  go_enter Try.func74, Try.ntmps74
  go_wp2_with fail
  rw [hw]
  refine (H.out _).mono ?_
  rintro e w1 ⟨rfl, rfl⟩
  go_wp2
  go_ret
  exact ⟨rfl, rfl⟩
end Go.Proofs.Ytiknkkkfkifahaa.Sa
end
section
/-
  sha.mixed walked: a state behind a block. By an AI agent.
-/
namespace Go.Proofs.Ytiknkkkfkifahaa.Sa
open Go.Proofs.Ytiknkkkfkifahaa.Sm
open Go.RowKit Go.Proofs.YtiknkkkfkifahaaW.PrintWords Go.Proofs.YtiknkkkfkifahaaW.PrintLast Go.Proofs.YtiknkkkfkifahaaW.PrintMore
set_option linter.unusedVariables false
set_option linter.unusedSimpArgs false

def cellsU (l : List Int) : Array Value := (l.map (Value.int .u32)).toArray
/-- What stands in memory while mixed goes: its state, the words, the result, the schedule. -/
structure MxW (w : World) (h : St) (L : List Int) (w' : World) : Prop where
  b0 : w'.heap[w.heap.size]? = some (.cells (cellsU h.list) 91 (0, 0))
  b1 : w'.heap[w.heap.size + 1]? = some (.cells (cellsU wordsL) 93 (0, 0))
  b2 : w'.heap[w.heap.size + 2]? = some (.cells (cellsU [0, 0, 0, 0, 0, 0, 0, 0]) 91 (0, 0))
  b3 : w'.heap[w.heap.size + 3]? = some (.cells (cellsU L) 93 (0, 0))
  bel : Below w.heap.size w w'
theorem MxW.drew {w w' : World} {h : St} {L : List Int} (H : MxW w h L w') : MxW w h L w'.drew := ⟨H.b0, H.b1, H.b2, H.b3, below_drew H.bel⟩
theorem MxW.alloc {w w' : World} {h : St} {L : List Int} (H : MxW w h L w') (o : Obj) : MxW w h L (w'.alloc o) := ⟨blk_alloc H.b0 _, blk_alloc H.b1 _, blk_alloc H.b2 _, blk_alloc H.b3 _, below_alloc H.bel _⟩
theorem MxW.setRow {w w' : World} {h : St} {L : List Int} (H : MxW w h L w') {g : Nat} (hg : w.heap.size + 3 < g) (cs : Array Value) : MxW w h L (w'.setRow g cs) :=
  ⟨(setRow_other _ _ _ _ (by omega)).trans H.b0, (setRow_other _ _ _ _ (by omega)).trans H.b1, (setRow_other _ _ _ _ (by omega)).trans H.b2, (setRow_other _ _ _ _ (by omega)).trans H.b3, below_setRow H.bel (by omega) _⟩
theorem MxW.set {w w' : World} {h : St} {L L' : List Int} (H : MxW w h L w') (i : Nat) (x : Int) (e : (cellsU L).setIfInBounds i (.int .u32 x) = cellsU L') : MxW w h L' (w'.setCell ⟨w.heap.size + 3, i, none⟩ (.int .u32 x)) :=
  ⟨blk_far H.b0 (by simp) _, blk_far H.b1 (by simp) _, blk_far H.b2 (by simp) _, by rw [← e]; exact blk_set H.b3 i _, below_set H.bel (by omega)⟩
def pad64 (l : List Int) : List Int := l ++ List.replicate (64 - l.length) 0

theorem pad64_set (l : List Int) (x : Int) (h : l.length < 64) : (cellsU (pad64 l)).setIfInBounds l.length (.int .u32 x) = cellsU (pad64 (l ++ [x])) := by
  unfold pad64 cellsU
  have e : 64 - l.length = (64 - (l.length + 1)) + 1 := by omega
  rw [e, List.replicate_succ]
  simp [List.length_append]
theorem cellsU_get (l : List Int) (i : Nat) (h : i < l.length) : (cellsU l)[i]? = some (.int .u32 (l.getD i 0)) := by
  unfold cellsU
  simp [List.getElem?_eq_getElem h]
theorem pad64_get (l : List Int) (i : Nat) (h : i < l.length) : (pad64 l).getD i 0 = l.getD i 0 := by
  unfold pad64
  simp [List.getElem?_append_left h]
theorem pad64_length (l : List Int) (h : l.length ≤ 64) : (pad64 l).length = 64 := by unfold pad64; simp; omega
theorem pad64_full (l : List Int) (h : l.length = 64) : pad64 l = l := by unfold pad64; simp [h]

theorem be_walk (b : ByteArray) (k : Nat) : bits BinOp.or IntKind.u32 (bits BinOp.or IntKind.u32 (bits BinOp.or IntKind.u32 (byt b (4 * k) % 4294967296 * 16777216 % 4294967296) (byt b (4 * k + 1) % 4294967296 * 65536 % 4294967296)) (byt b (4 * k + 2) % 4294967296 * 256 % 4294967296)) (byt b (4 * k + 3) % 4294967296) = be b k := by
  have h0 := byt_range b (4 * k); have h1 := byt_range b (4 * k + 1); have h2 := byt_range b (4 * k + 2); have h3 := byt_range b (4 * k + 3)
  have e := word_join h0 h1 h2 h3
  simp only [IntKind.wrap_u32] at e
  have m : ∀ x : Int, 0 ≤ x ∧ x ≤ 255 → x % 4294967296 = x := fun x hx => by omega
  rw [m _ h0, m _ h1, m _ h2, m _ h3, e]
  rfl
theorem turnZ (x z : Int) (h1 : 1 ≤ z) (h2 : z ≤ 31) (w : World) : Calls Try.prog 74 #[.int .u32 x, .int .i64 z] w fun e w' => e = .returned (.int .u32 (rotI x z.toNat)) ∧ w' = w := by
  have e : z = ((z.toNat : Nat) : Int) := by omega
  have c := turn_c x z.toNat (by omega) (by omega) w
  rw [← e] at c
  exact c
theorem new_ (w : World) (o : Obj) {n : Nat} (h : w.heap.size = n) : (w.alloc o).heap[n]? = some o := by
  subst h; exact blk_new w o
theorem next_walk (l : List Int) (m : Nat) : (l[m - 16]?.getD 0 + bits BinOp.xor IntKind.u32 (bits BinOp.xor IntKind.u32 (rotI (l[m - 15]?.getD 0) 7) (rotI (l[m - 15]?.getD 0) 18)) (l[m - 15]?.getD 0 / 8) + l[m - 7]?.getD 0 + bits BinOp.xor IntKind.u32 (bits BinOp.xor IntKind.u32 (rotI (l[m - 2]?.getD 0) 17) (rotI (l[m - 2]?.getD 0) 19)) (l[m - 2]?.getD 0 / 1024)) % 4294967296 = nextW l m := by
  unfold nextW s0 s1
  simp only [IntKind.wrap_u32, List.getD_eq_getElem?_getD]
  omega
theorem turnZ' (x z : Int) (h1 : 1 ≤ z) (h2 : z ≤ 31) (w : World) : Calls Try.prog 74 #[.int .u32 x, .int .i64 z] w fun e w' => e = .returned (.int .u32 (rotI x z.toNat)) ∧ w = w' :=
  (turnZ x z h1 h2 w).mono fun _ _ h => ⟨h.1, h.2.symm⟩
theorem wsOf_length (b : ByteArray) : (wsOf b).length = 64 := by unfold wsOf; rw [sched_length, w16_length]
theorem cellsU_one (l : List Int) : (cellsU l).all (·.oneCell') = true := by
  simp [cellsU, Value.oneCell']
theorem one8 (a b c d e f g h : Int) : (#[Value.int .u32 a, .int .u32 b, .int .u32 c, .int .u32 d, .int .u32 e, .int .u32 f, .int .u32 g, .int .u32 h].all (·.oneCell')) = true := by
  simp [Value.oneCell']
theorem rnd_walk (st : St) (k w : Int) (u : st.U) : (some (Obj.cells #[Value.int IntKind.u32
    ((st.h + bits BinOp.xor IntKind.u32 (bits BinOp.xor IntKind.u32 (rotI st.e 6) (rotI st.e 11)) (rotI st.e 25) +
          bits BinOp.xor IntKind.u32 (bits BinOp.and IntKind.u32 st.e st.f) (bits BinOp.and IntKind.u32 (bits BinOp.xor IntKind.u32 4294967295 st.e) st.g) + k + w +
        (bits BinOp.xor IntKind.u32 (bits BinOp.xor IntKind.u32 (rotI st.a 2) (rotI st.a 13)) (rotI st.a 22) +
          bits BinOp.xor IntKind.u32 (bits BinOp.xor IntKind.u32 (bits BinOp.and IntKind.u32 st.a st.b) (bits BinOp.and IntKind.u32 st.a st.c)) (bits BinOp.and IntKind.u32 st.b st.c))) % 4294967296),
    Value.int IntKind.u32 st.a, Value.int IntKind.u32 st.b, Value.int IntKind.u32 st.c,
    Value.int IntKind.u32
      ((st.d + (st.h + bits BinOp.xor IntKind.u32 (bits BinOp.xor IntKind.u32 (rotI st.e 6) (rotI st.e 11)) (rotI st.e 25) +
              bits BinOp.xor IntKind.u32 (bits BinOp.and IntKind.u32 st.e st.f) (bits BinOp.and IntKind.u32 (bits BinOp.xor IntKind.u32 4294967295 st.e) st.g) + k + w)) % 4294967296),
    Value.int IntKind.u32 st.e, Value.int IntKind.u32 st.f, Value.int IntKind.u32 st.g] 91 (0, 0))) = some (Obj.cells (cellsU (rnd st k w).list) 91 (0, 0)) := by
  rw [not_max (u st.e (by simp [St.list]))]
  unfold cellsU rnd St.list tI uI S0 S1 chI majI
  simp only [IntKind.wrap_u32, List.map_cons, List.map_nil]
  have k1 : ∀ a b c d e f g : Int, (a + b + c + d + e + (f + g)) % 4294967296 = (((((a + b) % 4294967296 + c) % 4294967296 + d) % 4294967296 + e) % 4294967296 + (f + g) % 4294967296) % 4294967296 := by intros; omega
  have k2 : ∀ x a b c d e : Int, (x + (a + b + c + d + e)) % 4294967296 = (x + ((((a + b) % 4294967296 + c) % 4294967296 + d) % 4294967296 + e) % 4294967296) % 4294967296 := by intros; omega
  rw [k1, k2]
def mixK (S h : St) (k : Nat) : List Int := (List.range 8).map fun i => if i < k then IntKind.u32.wrap (S.list.getD i 0 + h.list.getD i 0) else S.list.getD i 0
theorem mixK_length (S h : St) (k : Nat) : (mixK S h k).length = 8 := by simp [mixK]
theorem mixK_full (S h : St) : mixK S h 8 = (addSt S h).list := rfl
theorem mixK_at (S h : St) (k : Nat) (hk : k < 8) : (mixK S h k).getD k 0 = S.list.getD k 0 := by
  unfold mixK
  rw [List.getD_eq_getElem?_getD, List.getElem?_map, List.getElem?_range hk]
  simp
theorem mixK_set (S h : St) (k : Nat) (hk : k < 8) : (cellsU (mixK S h k)).setIfInBounds k (.int .u32 (IntKind.u32.wrap ((mixK S h k).getD k 0 + h.list.getD k 0))) = cellsU (mixK S h (k + 1)) := by
  rw [mixK_at S h k hk]
  unfold cellsU
  apply Array.ext'
  simp only [List.setIfInBounds_toArray]
  apply List.ext_getElem?
  intro i
  rw [List.getElem?_set]
  unfold mixK
  by_cases hi : i < 8
  · by_cases e : k = i
    · subst e
      rw [if_pos rfl, if_pos (by simpa using hi)]
      simp [List.getElem?_range hi]
    · rw [if_neg e]
      simp only [List.getElem?_map, List.getElem?_range hi, Option.map_some]
      by_cases h1 : i < k
      · rw [if_pos h1, if_pos (by omega)]
      · rw [if_neg h1, if_neg (by omega)]
  · rw [if_neg (by omega)]
    simp [hi]
theorem MxW.far {w w' : World} {h : St} {L : List Int} (H : MxW w h L w') {g : Nat} (hg : w.heap.size + 3 < g) (i : Nat) (v : Value) : MxW w h L (w'.setCell ⟨g, i, none⟩ v) :=
  ⟨blk_far H.b0 (by simp; omega) _, blk_far H.b1 (by simp; omega) _, blk_far H.b2 (by simp; omega) _, blk_far H.b3 (by simp; omega) _, below_set H.bel (by omega)⟩
theorem run_byt (s : ByteArray) (n : Nat) (h : n < s.size) (z : Int) (hz : z = n) (w : World) : (Instr.index 9 (.string s) (.int .i64 z)).run Try.prog w = .ok (.int .u8 (byt s n)) w := by
  subst hz
  rw [run_index_string w 9 s .i64 n Try.underlying9, dif_pos ⟨by omega, by omega⟩]
  have e : ((s[((n : Int)).toNat]'(by omega)).toNat : Int) = byt s n := by
    unfold byt
    rw [List.getD_eq_getElem?_getD, List.getElem?_eq_getElem (by simpa using h)]
    rfl
  rw [e]
theorem arr64 : Try.prog.arrayLen 93 = 64 := by kernel_rfl
theorem arr8 : Try.prog.arrayLen 91 = 8 := by kernel_rfl
theorem run_at64 (g : Nat) (n : Nat) (h : n < 64) (z : Int) (hz : z = n) (w : World) : (Instr.indexAt 93 (.pointer (some ⟨g, 0, none⟩)) (.int .i64 z)).run Try.prog w = .ok (.pointer (some ⟨g, n, none⟩)) w := by
  subst hz
  rw [run_indexAt_array w 93 ⟨g, 0, none⟩ .i64 n (by kernel_rfl), arr64, if_pos ⟨by omega, by omega⟩]
  have hs : (sizeOf (Try.prog.elem 93)).run Try.prog w = .ok 1 w := by kernel_rfl
  rw [hs]
  simp [Result.andThen, add_plain]
theorem run_at8 (g : Nat) (n : Nat) (h : n < 8) (z : Int) (hz : z = n) (w : World) : (Instr.indexAt 91 (.pointer (some ⟨g, 0, none⟩)) (.int .i64 z)).run Try.prog w = .ok (.pointer (some ⟨g, n, none⟩)) w := by
  subst hz
  rw [run_indexAt_array w 91 ⟨g, 0, none⟩ .i64 n (by kernel_rfl), arr8, if_pos ⟨by omega, by omega⟩]
  have hs : (sizeOf (Try.prog.elem 91)).run Try.prog w = .ok 1 w := by kernel_rfl
  rw [hs]
  simp [Result.andThen, add_plain]

set_option maxHeartbeats 8000000 in
set_option maxRecDepth 100000 in
theorem mixed_c (h : St) (hU : h.U) (b : ByteArray) (hb : b.size = 64) (w : World) :
    Calls Try.prog 64 #[u32s h.list, .string b, u32s wordsL] w fun e w' => e = .returned (u32s (mixS h b).list) ∧ Below w.heap.size w w' := by
  have HU := Lib.hid hU
  have HB := Lib.hid hb
  clear hU hb
  show Calls _ _ #[.agg (cellsU h.list), .string b, .agg (cellsU wordsL)] _ _
  obtain ⟨hv, ehv⟩ : ∃ v, v = cellsU h.list := ⟨_, rfl⟩
  obtain ⟨kv, ekv⟩ : ∃ v, v = cellsU wordsL := ⟨_, rfl⟩
  rw [← ehv, ← ekv]
  have EH := Lib.hid ehv
  have EK := Lib.hid ekv
  clear ehv ekv
  go_enter Try.func64, Try.ntmps64
  go_wp2_with fail
  go_loopw [23] (fun s wr => ∃ k : Nat, k ≤ 16 ∧ s = .int .i64 k ∧ MxW w h (pad64 (w16 b k)) wr) (fun s _ => 16 - (intOf s).toNat)
  case atStart =>
    refine ⟨0, by omega, rfl, ?_⟩
    have e1 := EH.out
    have e2 := EK.out
    subst e1 e2
    exact ⟨blk_alloc (blk_alloc (blk_alloc (new_ _ _ rfl) _) _) _, blk_alloc (blk_alloc (new_ _ _ (by simp)) _) _, blk_alloc (new_ _ _ (by simp)) _, new_ _ _ (by simp), ((((Below.refl _ _).alloc (Nat.le_refl _) _).alloc (by simp) _).alloc (by simp; omega) _).alloc (by simp; omega) _⟩
  case round =>
    obtain ⟨k, hk, rfl, hw⟩ := hrel
    by_cases hlt : k < 16
    · -- BEGIN A
      have hs := HB.out
      have g0 : 4 * k < b.size := by omega
      have g1 : 4 * k + 1 < b.size := by omega
      have g2 : 4 * k + 2 < b.size := by omega
      have g3 : 4 * k + 3 < b.size := by omega
      clear hs
      have q0 : IntKind.i64.wrap (4 * (k : Int)) = 4 * (k : Int) := (i64_w _).trans (Go.IntWalk.wrap64_in _ (by omega))
      have q1 : IntKind.i64.wrap (4 * (k : Int) + 1) = 4 * (k : Int) + 1 := (i64_w _).trans (Go.IntWalk.wrap64_in _ (by omega))
      have q2 : IntKind.i64.wrap (4 * (k : Int) + 2) = 4 * (k : Int) + 2 := (i64_w _).trans (Go.IntWalk.wrap64_in _ (by omega))
      have q3 : IntKind.i64.wrap (4 * (k : Int) + 3) = 4 * (k : Int) + 3 := (i64_w _).trans (Go.IntWalk.wrap64_in _ (by omega))
      have r0 := fun w => run_byt b (4 * k) g0 (4 * (k : Int)) (by omega) w
      have r1 := fun w => run_byt b (4 * k + 1) g1 (4 * (k : Int) + 1) (by omega) w
      have r2 := fun w => run_byt b (4 * k + 2) g2 (4 * (k : Int) + 2) (by omega) w
      have r3 := fun w => run_byt b (4 * k + 3) g3 (4 * (k : Int) + 3) (by omega) w
      have r4 := fun w' => run_at64 (w.heap.size + 1 + 1 + 1) k (by omega) k rfl w'
      clear g0 g1 g2 g3
      go_wp2_with fail
      go_still_tail 31, (by kernel_rfl)
      change wpList _ _ _ _ _ wr.drew
      have hw2 := hw.drew
      generalize wr.drew = w2 at hw2 ⊢
      have c3 : w2.cell? ⟨w.heap.size + 1 + 1 + 1, k, none⟩ = some (.int .u32 ((pad64 (w16 b k)).getD k 0)) := (blk_cell hw2.b3 k).trans (cellsU_get _ _ (by rw [pad64_length _ (by rw [w16_length]; omega)]; omega))
      have f3 : w2.frozen? ⟨w.heap.size + 1 + 1 + 1, k, none⟩ = false := blk_frozen hw2.b3 k
      have HW := Lib.hid hw2
      clear hw hw2 q0 q1 q2 q3 r0 r1 r2 r3 r4
      go_wp2_with fail
      go_roundw
      case rel =>
        refine ⟨k + 1, by omega, by go_num, HW.out.set k _ ?_⟩
        have e := pad64_set (w16 b k) (be b k) (by rw [w16_length]; omega)
        rw [w16_length, ← w16_succ] at e
        rw [be_walk]
        exact e
      case measure => simp [intOf]; omega
      -- END A
    · obtain rfl : k = 16 := by omega
      clear hlt hk
      go_wp2_with fail
      go_loopw [9] (fun s wr => ∃ m : Nat, 16 ≤ m ∧ m ≤ 64 ∧ s = .int .i64 m ∧ MxW w h (pad64 (sched (w16 b 16) (m - 16))) wr) (fun s _ => 64 - (intOf s).toNat)
      case atStart => exact ⟨16, by omega, by omega, rfl, hw⟩
      case round =>
        obtain ⟨m, hm1, hm2, rfl, hw⟩ := hrel
        have hlen : (sched (w16 b 16) (m - 16)).length = m := by rw [sched_length, w16_length]; omega
        by_cases hlt : m < 64
        · -- BEGIN B
          have q15 : IntKind.i64.wrap ((m : Int) - 15) = (m : Int) - 15 := (i64_w _).trans (Go.IntWalk.wrap64_in _ (by omega))
          have q2 : IntKind.i64.wrap ((m : Int) - 2) = (m : Int) - 2 := (i64_w _).trans (Go.IntWalk.wrap64_in _ (by omega))
          have q16 : IntKind.i64.wrap ((m : Int) - 16) = (m : Int) - 16 := (i64_w _).trans (Go.IntWalk.wrap64_in _ (by omega))
          have q7 : IntKind.i64.wrap ((m : Int) - 7) = (m : Int) - 7 := (i64_w _).trans (Go.IntWalk.wrap64_in _ (by omega))
          have r15 := fun w' => run_at64 (w.heap.size + 1 + 1 + 1) (m - 15) (by omega) ((m : Int) - 15) (by omega) w'
          have r2 := fun w' => run_at64 (w.heap.size + 1 + 1 + 1) (m - 2) (by omega) ((m : Int) - 2) (by omega) w'
          have r16 := fun w' => run_at64 (w.heap.size + 1 + 1 + 1) (m - 16) (by omega) ((m : Int) - 16) (by omega) w'
          have r7 := fun w' => run_at64 (w.heap.size + 1 + 1 + 1) (m - 7) (by omega) ((m : Int) - 7) (by omega) w'
          have r0 := fun w' => run_at64 (w.heap.size + 1 + 1 + 1) m (by omega) (m : Int) rfl w'
          have cc : ∀ w', MxW w h (pad64 (sched (w16 b 16) (m - 16))) w' → ∀ j, j < m → w'.cell? ⟨w.heap.size + 1 + 1 + 1, j, none⟩ = some (.int .u32 ((sched (w16 b 16) (m - 16)).getD j 0)) := fun w' H j hj => by
            rw [← pad64_get _ _ (by omega)]
            exact (blk_cell H.b3 j).trans (cellsU_get _ _ (by rw [pad64_length _ (by omega)]; omega))
          have c15 := cc wr.drew hw.drew (m - 15) (by omega)
          have c2 := cc wr.drew hw.drew (m - 2) (by omega)
          have HL := Lib.hid hlen
          have CC := Lib.hid cc
          clear hlen cc
          go_wp2_with fail
          go_still (by kernel_rfl)
          change Exit.then _ _ _ _ wr.drew
          clear c15 c2 q15 q2 r15 r2
          have hw2 := hw.drew
          generalize wr.drew = w2 at hw2 ⊢
          go_wp2_with fail
          have hw3 := hw2.drew
          have c16 := CC.out w2.drew hw3 (m - 16) (by omega)
          have c7 := CC.out w2.drew hw3 (m - 7) (by omega)
          refine wp_region_still_tail 29 (by kernel_rfl) (by kernel_rfl) ?_
          simp only [List.take_succ_cons, List.take_zero, List.drop_succ_cons, List.drop_zero]
          repeat (first | still_step | still_call (turnZ _ _ (by decide) (by decide) _))
          refine wpStill_nil ?_
          change wpList _ _ _ _ _ w2.drew
          generalize w2.drew = w3 at hw3 ⊢
          clear c16 c7
          have c3 : w3.cell? ⟨w.heap.size + 1 + 1 + 1, m, none⟩ = some (.int .u32 ((pad64 (sched (w16 b 16) (m - 16))).getD m 0)) := (blk_cell hw3.b3 m).trans (cellsU_get _ _ (by have := HL.out; rw [pad64_length _ (by omega)]; omega))
          have f3 : w3.frozen? ⟨w.heap.size + 1 + 1 + 1, m, none⟩ = false := blk_frozen hw3.b3 m
          have HW := Lib.hid hw3
          clear hw hw2 hw3 q16 q7 r16 r7 r0
          go_wp2_with fail
          go_roundw
          case rel =>
            (repeat apply Exists.intro)
            refine ⟨⟨m + 1, by omega, by omega, by go_num, HW.out.set m _ ?_⟩, rfl⟩
            have e := pad64_set (sched (w16 b 16) (m - 16)) (nextW (sched (w16 b 16) (m - 16)) m) (by have := HL.out; omega)
            rw [HL.out] at e
            have e2 : sched (w16 b 16) (m + 1 - 16) = sched (w16 b 16) (m - 16) ++ [nextW (sched (w16 b 16) (m - 16)) m] := by
              rw [show m + 1 - 16 = (m - 16) + 1 by omega, sched, show 16 + (m - 16) = m by omega]
            rw [e2, ← e]
            congr 1
            exact congrArg _ (next_walk _ _)
          case measure => simp [intOf]; omega
          -- END B
        · obtain rfl : m = 64 := by omega
          replace hw : MxW w h (wsOf b) wr := by
            have := hw
            rw [pad64_full _ hlen] at this
            exact this
          clear hlen hm1 hm2 hlt
          obtain ⟨w1, rfl⟩ : ∃ w1 : World, w1 = wr := ⟨_, rfl⟩
          have hst := run_storeCells_new (P := Try.prog) w1 91 #[.int .u32 0, .int .u32 0, .int .u32 0, .int .u32 0, .int .u32 0, .int .u32 0, .int .u32 0, .int .u32 0] (cellsU h.list) (by kernel_rfl) rfl (cellsU_one _)
          have gt : w.heap.size + 3 < w1.heap.size := blk_lt hw.b3
          go_wp2_with (refine wpList_load_row rfl 91 _ rfl w.heap.size rfl 91 _ (0, 0) _ hw.b0 Try.underlying91 rfl (by kernel_rfl) ?_)
          clear hst
          go_loopw [100] (fun s wr => ∃ k : Nat, k ≤ 64 ∧ s = .int .i64 k ∧ MxW w h (wsOf b) wr ∧ wr.heap[w1.heap.size]? = some (.cells (cellsU (rnds h wordsL (wsOf b) k).list) 91 (0, 0))) (fun s _ => 64 - (intOf s).toNat)
          case atStart => exact ⟨0, by omega, rfl, hw.alloc _, blk_new _ _⟩
          case round =>
            clear hw
            obtain ⟨k, hk, rfl, hw, hs⟩ := hrel
            by_cases hlt : k < 64
            · -- BEGIN C
              obtain ⟨st, est⟩ : ∃ st, st = rnds h wordsL (wsOf b) k := ⟨_, rfl⟩
              rw [← est] at hs
              have EST := Lib.hid est
              clear est
              have cc : ∀ w' : World, w'.heap[w1.heap.size]? = some (.cells (cellsU st.list) 91 (0, 0)) → w'.cell? ⟨w1.heap.size, 0, none⟩ = some (.int .u32 st.a) ∧ w'.cell? ⟨w1.heap.size, 1, none⟩ = some (.int .u32 st.b) ∧ w'.cell? ⟨w1.heap.size, 2, none⟩ = some (.int .u32 st.c) ∧ w'.cell? ⟨w1.heap.size, 3, none⟩ = some (.int .u32 st.d) ∧ w'.cell? ⟨w1.heap.size, 4, none⟩ = some (.int .u32 st.e) ∧ w'.cell? ⟨w1.heap.size, 5, none⟩ = some (.int .u32 st.f) ∧ w'.cell? ⟨w1.heap.size, 6, none⟩ = some (.int .u32 st.g) ∧ w'.cell? ⟨w1.heap.size, 7, none⟩ = some (.int .u32 st.h) := fun w' H => ⟨blk_cell H 0, blk_cell H 1, blk_cell H 2, blk_cell H 3, blk_cell H 4, blk_cell H 5, blk_cell H 6, blk_cell H 7⟩
              have CC := Lib.hid cc
              obtain ⟨x0, x1, x2, x3, x4, x5, x6, x7⟩ := cc wr.drew hs
              clear cc
              go_wp2_with fail
              go_still (by kernel_rfl)
              change Exit.then _ _ _ _ wr.drew
              clear x0 x1 x2 x3 x4 x5 x6 x7
              have hw2 := hw.drew
              have hs2 : wr.drew.heap[w1.heap.size]? = some (.cells (cellsU st.list) 91 (0, 0)) := hs
              generalize wr.drew = w2 at hw2 hs2 ⊢
              obtain ⟨x0, x1, x2, x3, x4, x5, x6, x7⟩ := CC.out w2.drew hs2
              have y1 : w2.drew.cell? ⟨w.heap.size + 1, k, none⟩ = some (.int .u32 (wordsL.getD k 0)) := (blk_cell hw2.drew.b1 k).trans (cellsU_get _ _ hlt)
              have y2 : w2.drew.cell? ⟨w.heap.size + 1 + 1 + 1, k, none⟩ = some (.int .u32 ((wsOf b).getD k 0)) := (blk_cell hw2.drew.b3 k).trans (cellsU_get _ _ (by rw [wsOf_length]; exact hlt))
              have r1 := fun w' => run_at64 (w.heap.size + 1) k hlt (k : Int) rfl w'
              have r2 := fun w' => run_at64 (w.heap.size + 1 + 1 + 1) k hlt (k : Int) rfl w'
              have hsg : IntKind.u32.signed = false := rfl
              have hmx : IntKind.u32.max = 4294967295 := rfl
              go_wp2_with fail
              refine wp_region_still_lit (by kernel_rfl) (by kernel_rfl) ?_
              repeat (first | still_step | still_call (turnZ _ _ (by decide) (by decide) _))
              refine wpStill_nil ?_
              change Exit.then _ _ _ _ w2.drew
              clear x0 x1 x2 x3 x4 x5 x6 x7 y1 y2 r1 r2
              have hw3 := hw2.drew
              have hs3 : w2.drew.heap[w1.heap.size]? = some (.cells (cellsU st.list) 91 (0, 0)) := hs2
              generalize w2.drew = w3 at hw3 hs3 ⊢
              obtain ⟨x0, x1, x2, x3, x4, x5, x6, x7⟩ := CC.out w3 hs3
              clear x0 x1 x2 x4 x5 x6 x7
              go_wp2_with (first | (go_at_call 74; refine (turnZ' _ _ (by decide) (by decide) _).mono ?_; rintro e w4 ⟨rfl, rfl⟩) | (refine Go.wpList_store_row rfl 91 (.tmp 12) (.tmp 176) rfl w1.heap.size _ rfl rfl 91 _ hs3 (by kernel_rfl) rfl (one8 _ _ _ _ _ _ _ _) ?_))
              go_roundw
              case rel =>
                refine ⟨k + 1, by omega, by go_num, hw3.setRow gt _, ?_⟩
                refine (setRow_heap _ _ _ _ _ _ hs3).trans ?_
                have e := EST.out
                have u : st.U := by rw [e]; exact rnds_U HU.out _ _ _
                rw [rnd_walk st _ _ u, rnds, ← e]
                simp only [List.getD_eq_getElem?_getD]
              case measure => simp [intOf]; omega
              -- END C
            · -- BEGIN D
              obtain rfl : k = 64 := by omega
              clear hlt hk
              obtain ⟨S, eS⟩ : ∃ S, S = rnds h wordsL (wsOf b) 64 := ⟨_, rfl⟩
              rw [← eS] at hs
              have ES := Lib.hid eS
              clear eS
              obtain ⟨w2, rfl⟩ : ∃ w2 : World, w2 = wr := ⟨_, rfl⟩
              go_wp2_with fail
              go_loopw [178] (fun s wr => ∃ k : Nat, k ≤ 8 ∧ s = .int .i64 k ∧ MxW w h (wsOf b) wr ∧ wr.heap[w1.heap.size]? = some (.cells (cellsU (mixK S h k)) 91 (0, 0))) (fun s _ => 8 - (intOf s).toNat)
              case atStart => exact ⟨0, by omega, rfl, hw, hs⟩
              case round =>
                clear hw hs
                obtain ⟨k, hk, rfl, hw, hs⟩ := hrel
                by_cases hlt : k < 8
                · have lx : k < (mixK S h k).length := by rw [mixK_length]; exact hlt
                  have ly : k < h.list.length := hlt
                  have x1 : wr.drew.cell? ⟨w1.heap.size, k, none⟩ = some (.int .u32 ((mixK S h k).getD k 0)) := (blk_cell (w := wr.drew) hs k).trans (cellsU_get _ _ lx)
                  have x2 : wr.drew.cell? ⟨w.heap.size, k, none⟩ = some (.int .u32 (h.list.getD k 0)) := (blk_cell hw.drew.b0 k).trans (cellsU_get _ _ ly)
                  have r1 := fun w' => run_at8 w1.heap.size k hlt (k : Int) rfl w'
                  have r2 := fun w' => run_at8 w.heap.size k hlt (k : Int) rfl w'
                  clear lx ly
                  go_wp2_with fail
                  go_still_tail 8, (by kernel_rfl)
                  change wpList _ _ _ _ _ wr.drew
                  have hw3 := hw.drew
                  have hs3 : wr.drew.heap[w1.heap.size]? = some (.cells (cellsU (mixK S h k)) 91 (0, 0)) := hs
                  have f3 : wr.drew.frozen? ⟨w1.heap.size, k, none⟩ = false := blk_frozen hs3 k
                  clear x2 r1 r2
                  generalize wr.drew = w3 at hw3 hs3 x1 f3 ⊢
                  have HW := Lib.hid hw3
                  have HS := Lib.hid hs3
                  clear hw3 hs3 hw hs
                  go_wp2_with fail
                  go_roundw
                  case rel =>
                    (repeat apply Exists.intro)
                    refine ⟨⟨k + 1, by omega, by go_num, HW.out.far gt _ _, ?_⟩, rfl⟩
                    refine (blk_set HS.out k _).trans ?_
                    rw [← mixK_set S h k hlt]
                    simp only [IntKind.wrap_u32, List.getD_eq_getElem?_getD]
                  case measure => simp [intOf]; omega
                · obtain rfl : k = 8 := by omega
                  clear hlt hk
                  rw [mixK_full] at hs
                  go_wp2_with (first | (refine wpList_load_row rfl 91 _ rfl w1.heap.size rfl 91 _ (0, 0) _ hs Try.underlying91 rfl (by kernel_rfl) ?_) | (refine Go.wpList_store_row rfl 91 (.tmp 6) (.tmp 190) rfl (w.heap.size + 1 + 1) _ rfl rfl 91 _ hw.b2 (by kernel_rfl) rfl (cellsU_one _) ?_))
                  have e := ES.out
                  have hr : (wr.setRow (w.heap.size + 1 + 1) (cellsU (addSt S h).list)).heap[w.heap.size + 1 + 1]? = some (.cells (cellsU (mixS h b).list) 91 (0, 0)) := by
                    rw [setRow_heap _ _ _ _ _ _ hw.b2, e]
                    rfl
                  refine bodyPost_ret (v := u32s (mixS h b).list) (results_row Try.results64 rfl hr Try.underlying91 (by kernel_rfl)) rfl ⟨rfl, below_setRow hw.bel (by omega) _⟩
              -- END D
end Go.Proofs.Ytiknkkkfkifahaa.Sa
end
section
/-
  sha.Block walked. By an AI agent.
-/
namespace Go.Proofs.Ytiknkkkfkifahaa.Sa
open Go.Proofs.Ytiknkkkfkifahaa.Sm
open Go.RowKit Go.Proofs.YtiknkkkfkifahaaW.PrintWords Go.Proofs.YtiknkkkfkifahaaW.PrintLast Go.Proofs.YtiknkkkfkifahaaW.PrintMore
set_option linter.unusedVariables false
set_option linter.unusedSimpArgs false

theorem exec_load_row {P : Program} {o : Oper} {a : Act} {ty : TypeId} {x : Operand} {g : Nat} {t : TypeId} {cs : Array Value} {fr : Nat × Nat} {d : TypeDesc} (w : World) (ho : o.op = .load ty x) (hx : a.eval x = .pointer (some ⟨g, 0, none⟩)) (hg : w.heap[g]? = some (.cells cs t fr))
    (hu : P.underlying ty = some d) (hd : (match d with | .struct _ | .array _ _ => true | _ => false) = true) (hi : (P.info? ty).map (·.size) = some cs.size) : (execOp a.eval o).run P w = .ok (.value (.agg cs)) w := by
  unfold execOp
  simp only [ho, hx, Instr.loadAt, Instr.sureAddr, Sem.run_bind, Sem.run_pure, Result.andThen_ok, run_loadVar_row w g t ty cs fr d hg hu hd hi]
theorem exec_store_row {P : Program} {o : Oper} {a : Act} {ty : TypeId} {x y : Operand} {g : Nat} {cells old : Array Value} {t : TypeId} (w : World) (ho : o.op = .store ty x y) (hx : a.eval x = .pointer (some ⟨g, 0, none⟩)) (hy : a.eval y = .agg cells)
    (hg : w.heap[g]? = some (.cells old t (0, 0))) (hi : (P.info? ty).map (·.size) = some cells.size) (hold : old.size = cells.size) (h1 : cells.all (·.oneCell') = true) : (execOp a.eval o).run P w = .ok .skip (w.setRow g cells) := by
  unfold execOp
  simp only [ho, hx, hy, Instr.storeAt, Instr.sureAddr, Sem.run_bind, Sem.run_pure, Result.andThen_ok, run_storeVar_row w g t ty old cells hg hi hold h1]
/-- Two results, the first an array in a block. -/
theorem results_row2 {P : Program} {fn : Func} {a b : Tmp} {t : TypeId} (hr : fn.results = #[.cell a t, .tmp b]) {tmps : Array Value} {W : World} {g : Nat} (ha : tmps.getD a undef = .pointer (some ⟨g, 0, none⟩)) {ty : TypeId} {cs : Array Value} {fr : Nat × Nat} (hg : W.heap[g]? = some (.cells cs ty fr)) {n : Nat} {e : TypeId}
    (hu : P.underlying t = some (.array n e)) (hi : (P.info? t).map (·.size) = some cs.size) {v : Value} (hb : tmps.getD b undef = v) : (results fn tmps).run P W = .ok (.tuple #[.agg cs, v]) W := by
  have h := run_loadVar_row (P := P) W g ty t cs fr _ hg hu rfl hi
  rw [Array.getD_eq_getD_getElem?] at ha hb
  unfold results
  rw [hr]
  simp [ha, asAddr, h, hb]

end Go.Proofs.Ytiknkkkfkifahaa.Sa
end
section
/-
  sha.Pad walked: a text made longer. By an AI agent.
-/
namespace Go.Proofs.Ytiknkkkfkifahaa.Sa
open Go.Proofs.Ytiknkkkfkifahaa.Sm
open Go.RowKit Go.Proofs.YtiknkkkfkifahaaW.PrintWords Go.Proofs.YtiknkkkfkifahaaW.PrintLast Go.Proofs.YtiknkkkfkifahaaW.PrintMore
set_option linter.unusedVariables false
set_option linter.unusedSimpArgs false

theorem below_drew1 {w W : World} (h : Below w.heap.size w W) : Below w.heap.size w W.drew := below_drew h
def tailL (n k : Nat) : List Int := (List.range 8).map fun i => if i < k then ((n * 8 / 2 ^ (56 - 8 * i) % 256 : Nat) : Int) else 0
def tailC (n k : Nat) : Array Value := (nums .u8 (tailL n k)).toArray
theorem tailC_get (n k i : Nat) (h : i < 8) : ∃ v, (tailC n k)[i]? = some v := by
  have : i < (tailC n k).size := by simp [tailC, nums, tailL]; exact h
  exact ⟨_, Array.getElem?_eq_getElem this⟩
theorem tailC_set (n k : Nat) (hk : k < 8) : (tailC n k).setIfInBounds k (.int .u8 ((n * 8 / 2 ^ (56 - 8 * k) % 256 : Nat) : Int)) = tailC n (k + 1) := by
  unfold tailC
  apply Array.ext'
  simp only [List.setIfInBounds_toArray]
  apply List.ext_getElem?
  intro i
  rw [List.getElem?_set]
  unfold tailL nums
  by_cases hi : i < 8
  · by_cases e : k = i
    · subst e
      rw [if_pos rfl, if_pos (by simpa using hi)]
      simp [List.getElem?_range hi]
    · rw [if_neg e]
      simp only [List.getElem?_map, List.getElem?_range hi, Option.map_some]
      by_cases h1 : i < k
      · rw [if_pos h1, if_pos (by omega)]
      · rw [if_neg h1, if_neg (by omega)]
  · rw [if_neg (by omega)]
    simp [hi]
theorem run_at8b (g : Nat) (n : Nat) (h : n < 8) (z : Int) (hz : z = n) (w : World) : (Instr.indexAt 115 (.pointer (some ⟨g, 0, none⟩)) (.int .i64 z)).run Try.prog w = .ok (.pointer (some ⟨g, n, none⟩)) w := by
  subst hz
  have ha : Try.prog.arrayLen 115 = 8 := by kernel_rfl
  rw [run_indexAt_array w 115 ⟨g, 0, none⟩ .i64 n (by kernel_rfl), ha, if_pos ⟨by omega, by omega⟩]
  have hs : (sizeOf (Try.prog.elem 115)).run Try.prog w = .ok 1 w := by kernel_rfl
  rw [hs]
  simp [Result.andThen, add_plain]
theorem tail_bytes (n : Nat) : tailL n 8 = (lenBytes n).map fun b => ((b.toNat : Nat) : Int) := by
  unfold tailL lenBytes
  rw [List.map_map]
  apply List.map_congr_left
  intro i hi
  have hi' : i < 8 := List.mem_range.1 hi
  rw [if_pos hi']
  simp only [Function.comp, UInt8.toNat_ofNat']
  have e : 2 ^ (56 - 8 * i) = 256 ^ (7 - i) := by
    rw [show 256 = 2 ^ 8 by decide, ← Nat.pow_mul]
    congr 1; omega
  rw [e]
theorem str_bytes (l : List UInt8) : strOfNums (l.map fun b => ((b.toNat : Nat) : Int)) = ⟨l.toArray⟩ := by
  unfold strOfNums
  have e : ((fun n : Int => UInt8.ofNat n.toNat) ∘ fun b : UInt8 => ((b.toNat : Nat) : Int)) = id := by funext b; simp
  rw [List.map_map, e, List.map_id]
theorem rep_c (n : Nat) (hn : n ≤ 63) (R : List UInt8) (hR : R = List.replicate n 0) (w : World) : Calls Try.prog 73 #[.string ⟨#[0]⟩, .int .i64 n] w fun e w' => e = .returned (.string ⟨R.toArray⟩) ∧ Below w.heap.size w w' := by
  have e : Lib.repeatL (ByteArray.mk #[0]).data.toList n = R := by
    rw [hR]
    clear hR hn
    induction n with
    | zero => rfl
    | succ n ih => rw [Lib.repeatL, ih, List.replicate_succ]; rfl
  have c := Try.strings_Repeat ⟨#[0]⟩ n w (by omega) (by show 1 * _ ≤ _; omega)
  rw [e] at c
  exact c
/-- A slice of bytes made a string, where it stands. -/
theorem exec_str {o : Oper} {a : Act} {x : Operand} {A : Option Addr} {n c : Nat} {l : List UInt8} (w : World) (ho : o.op = .convert 98 9 x) (hx : a.eval x = .slice A n c) (h : ReadsInt w .u8 A n (l.map fun b => ((b.toNat : Nat) : Int)) ∧ n = l.length) : (execOp a.eval o).run Try.prog w = .ok (.value (.string ⟨l.toArray⟩)) w := by
  have e := string_of_reads (P := Try.prog) (src := 98) (dst := 9) (c := c) Try.underlying98 Try.underlying5 Try.underlying9 h.1
  rw [str_bytes] at e
  unfold execOp
  simp only [ho, hx, Sem.run_bind, e, Result.andThen_ok]
  rfl
theorem tail_reads {w w' : World} {n : Nat} (h : w'.heap[w.heap.size]? = some (.cells (tailC n 8) 115 (0, 0))) : ReadsInt w' .u8 (some ⟨w.heap.size, 0, none⟩) 8 ((lenBytes n).map fun b => ((b.toNat : Nat) : Int)) ∧ 8 = (lenBytes n).length := by
  rw [← tail_bytes]
  refine ⟨⟨by simp [tailL], by omega, fun _ => ⟨_, rfl, fun i hi => ?_⟩⟩, by simp [lenBytes]⟩
  rw [add_plain]
  refine (blk_cell h i).trans ?_
  simp [tailC, nums, rd, tailL, List.getElem?_range hi, hi]

set_option maxHeartbeats 8000000 in
set_option maxRecDepth 100000 in
theorem pad_c (s : ByteArray) (hs : s.size ≤ 140737488351232) (w : World) :
    Calls Try.prog 63 #[.string s] w fun e w' => e = .returned (.string (padB s)) ∧ Below w.heap.size w w' := by
  go_enter Try.func63, Try.ntmps63
  go_wp2_with fail
  go_loopw [16] (fun i wr => ∃ k : Nat, k ≤ 8 ∧ i = .int .i64 k ∧ wr.heap[w.heap.size]? = some (.cells (tailC s.size k) 115 (0, 0)) ∧ Hid (Below w.heap.size w wr)) (fun i _ => 8 - (intOf i).toNat)
  case atStart => exact ⟨0, Nat.zero_le _, rfl, new_ _ _ rfl, Lib.hid ((Below.refl _ _).alloc (Nat.le_refl _) _)⟩
  case round =>
    obtain ⟨k, hk, rfl, hg, HB⟩ := hrel
    by_cases hlt : k < 8
    · obtain ⟨v, hv⟩ := tailC_get s.size k k hlt
      have c3 : wr.cell? ⟨w.heap.size, k, none⟩ = some v := (blk_cell hg k).trans hv
      have f3 : wr.frozen? ⟨w.heap.size, k, none⟩ = false := blk_frozen hg k
      have r1 := fun w' => run_at8b w.heap.size k hlt (k : Int) rfl w'
      have t1 : (56 - 8 * (k : Int)).toNat = 56 - 8 * k := by omega
      have HG := Lib.hid hg
      clear hv hg
      go_wp2
      go_roundw
      case rel =>
        have e : (((s.size * 8 / 2 ^ (56 - 8 * k) % 256 : Nat)) : Int) = (s.size : Int) * 8 / 2 ^ (56 - 8 * k) % 256 := by simp
        rw [← e]
        exact ⟨k + 1, by omega, by go_num, (blk_set HG.out k _).trans (by rw [tailC_set _ _ hlt]), Lib.hid (below_set HB.out (Nat.le_refl _))⟩
      case measure => simp [intOf]; omega
    · obtain rfl : k = 8 := by omega
      clear hlt hk
      have HG := Aside0.mk (show wr.drew.heap[w.heap.size]? = some (.cells (tailC s.size 8) 115 (0, 0)) from hg)
      replace HB := Aside0.mk HB.out
      clear hg
      have hn : ((119 - s.size % 64) % 64 : Nat) ≤ 63 := by omega
      have en : ((119 : Int) - (s.size : Int) % 64) % 64 = (((119 - s.size % 64) % 64 : Nat) : Int) := by omega
      obtain ⟨R, hR⟩ : ∃ R : List UInt8, R = List.replicate ((119 - s.size % 64) % 64) 0 := ⟨_, rfl⟩
      have hRl : R.length = (119 - s.size % 64) % 64 := by rw [hR]; simp
      have ht : (lenBytes s.size).length = 8 := by simp [lenBytes]
      have a2 : ¬ 9223372036854775807 < s.size + 1 + R.length := by omega
      have a3 : ¬ 9223372036854775807 < s.size + 1 + R.length + (lenBytes s.size).length := by omega
      have HRl := Lib.hid hRl
      have REP := Lib.hid (fun W => rep_c _ hn R hR W)
      have HR := Lib.hid hR
      clear hRl ht hR
      have a1 : ¬ 9223372036854775807 < s.size + 1 := by omega
      go_wp2_with fail
      refine start_ (n := 9) (S := fun w' : World => w'.heap[w.heap.size]? = some (.cells (tailC s.size 8) 115 (0, 0))) (ds := []) #[false, false, false, false, false, false, false, false, false] (by kernel_rfl) rfl rfl HG.out (fun hHeld => ?_)
      replace HG := Aside0.mk hHeld
      replace HB := Aside0.mk (below_drew1 HB.out)
      generalize wr.drew = w1 at hHeld HG HB ⊢
      refine pure_ (i := 0) (N := some 28) (v := ?_) (a' := ?_) #[true, false, false, false, false, false, false, false, false] rfl rfl (by kernel_rfl) (fun _ _ _ h => h) (Or.inl ⟨by rfl, ?_⟩) ?_ ?_
      rotate_left
      · intro w'
        go_simp
        with_reducible rfl
      rotate_left
      · simp only [Act.put, List.setIfInBounds_toArray, List.set_cons_zero, List.set_cons_succ, i64_w, i32_w]
        rfl
      refine pure_ (i := 1) (N := some 29) (v := ?_) (a' := ?_) #[true, true, false, false, false, false, false, false, false] rfl rfl (by kernel_rfl) (fun _ _ _ h => h) (Or.inl ⟨by rfl, ?_⟩) ?_ ?_
      rotate_left
      · intro w'
        go_simp
        with_reducible rfl
      rotate_left
      · simp only [Act.put, List.setIfInBounds_toArray, List.set_cons_zero, List.set_cons_succ, i64_w, i32_w]
        rfl
      refine pure_ (i := 2) (N := some 30) (v := ?_) (a' := ?_) #[true, true, true, false, false, false, false, false, false] rfl rfl (by kernel_rfl) (fun _ _ _ h => h) (Or.inl ⟨by rfl, ?_⟩) ?_ ?_
      rotate_left
      · intro w'
        go_simp
        with_reducible rfl
      rotate_left
      · simp only [Act.put, List.setIfInBounds_toArray, List.set_cons_zero, List.set_cons_succ, i64_w, i32_w]
        rfl
      refine pure_ (i := 5) (N := some 33) (v := ?_) (a' := ?_) #[true, true, true, false, false, true, false, false, false] rfl rfl (by kernel_rfl) (fun _ _ _ h => h) (Or.inl ⟨by rfl, ?_⟩) ?_ ?_
      rotate_left
      · intro w'
        go_simp
        with_reducible rfl
      rotate_left
      · simp only [Act.put, List.setIfInBounds_toArray, List.set_cons_zero, List.set_cons_succ, i64_w, i32_w]
        rfl
      refine take_ (i := 6) (N := some 34) (v := .string ⟨(lenBytes s.size).toArray⟩) (a' := ?_) #[true, true, true, false, false, true, true, false, false] rfl rfl (by kernel_rfl) (fun _ _ _ h => h) (Or.inl ⟨by rfl, ?_⟩) hHeld ?_ ?_
      · rintro w' s0
        exact exec_str _ rfl rfl (tail_reads s0)
      rotate_left
      · simp only [Act.put, List.setIfInBounds_toArray, List.set_cons_zero, List.set_cons_succ, i64_w, i32_w]
        rfl
      refine one_ (i := 3) (N := some 31) #[true, true, true, true, false, true, true, false, false] rfl rfl (by kernel_rfl) (by decide) (fun K hK => ?_)
      refine goes_ Try.func73 (by kernel_rfl) rfl #[.string ⟨#[0]⟩, .int .i64 (((119 - s.size % 64) % 64 : Nat) : Int)] (by rfl) rfl rfl (by (try simp only [List.map_toArray, List.map_cons, List.map_nil]); first | done | rfl) ?_
      refine (REP.out _).mono ?_
      rintro e w2 ⟨rfl, hb⟩
      refine ⟨_, rfl, ?_⟩
      have n0_ := Aside0.mk (blk_below HG.out hb)
      have n2_ := Aside0.mk (below_step HB.out hb)
      clear HG HB hb
      have HG := n0_
      have HB := n2_
      clear n0_ n2_
      refine hK.out _ _ HG.out (fun hHeld => ?_)
      clear hK K
      refine norm_ (a' := ?_) ?_ ?_
      rotate_left
      · show Act.put _ (some 31) _ = _
        simp only [Act.put, List.setIfInBounds_toArray, List.set_cons_zero, List.set_cons_succ, i64_w, i32_w]
        rfl
      refine pure_ (i := 4) (N := some 32) (v := ?_) (a' := ?_) #[true, true, true, true, true, true, true, false, false] rfl rfl (by kernel_rfl) (fun _ _ _ h => h) (Or.inl ⟨by rfl, ?_⟩) ?_ ?_
      rotate_left
      · intro w'
        go_simp
        with_reducible rfl
      rotate_left
      · simp only [Act.put, List.setIfInBounds_toArray, List.set_cons_zero, List.set_cons_succ, i64_w, i32_w]
        rfl
      refine pure_ (i := 7) (N := some 35) (v := ?_) (a' := ?_) #[true, true, true, true, true, true, true, true, false] rfl rfl (by kernel_rfl) (fun _ _ _ h => h) (Or.inl ⟨by rfl, ?_⟩) ?_ ?_
      rotate_left
      · intro w'
        go_simp
        with_reducible rfl
      rotate_left
      · simp only [Act.put, List.setIfInBounds_toArray, List.set_cons_zero, List.set_cons_succ, i64_w, i32_w]
        rfl
      refine pure_ (i := 8) (N := some 2) (v := ?_) (a' := ?_) #[true, true, true, true, true, true, true, true, true] rfl rfl (by kernel_rfl) (fun _ _ _ h => h) (Or.inl ⟨by rfl, ?_⟩) ?_ ?_
      rotate_left
      · intro w'
        go_simp
        with_reducible rfl
      rotate_left
      · simp only [Act.put, List.setIfInBounds_toArray, List.set_cons_zero, List.set_cons_succ, i64_w, i32_w]
        rfl
      refine done_ (by kernel_rfl) ?_
      go_wp2
      go_ret
      refine ⟨?_, HB.out⟩
      show Ending.returned (.string (s ++ ⟨#[128]⟩ ++ ⟨R.toArray⟩ ++ ⟨(lenBytes s.size).toArray⟩)) = _
      rw [HR.out]
      congr 2
      unfold padB padL
      apply ByteArray.ext
      simp
end Go.Proofs.Ytiknkkkfkifahaa.Sa
end
section
/-
  sha.Sum walked: a text's digest. By an AI agent.
-/
namespace Go.Proofs.Ytiknkkkfkifahaa.Sa
open Go.Proofs.Ytiknkkkfkifahaa.Sm
open Go.RowKit Go.Proofs.YtiknkkkfkifahaaW.PrintWords Go.Proofs.YtiknkkkfkifahaaW.PrintLast Go.Proofs.YtiknkkkfkifahaaW.PrintMore
set_option linter.unusedVariables false
set_option linter.unusedSimpArgs false

/-- the state behind j blocks -/
def stN (p : ByteArray) : Nat → St
  | 0 => firstS
  | j + 1 => mixS (stN p j) (p.extract (64 * j) (64 * j + 64))
theorem firstS_U : firstS.U := by
  intro x hx
  simp only [firstS, St.list, List.mem_cons, List.not_mem_nil, or_false] at hx
  rcases hx with rfl | rfl | rfl | rfl | rfl | rfl | rfl | rfl <;> exact ⟨by decide, by decide⟩
theorem stN_U (p : ByteArray) (j : Nat) : (stN p j).U := by
  cases j with
  | zero => exact firstS_U
  | succ j => exact mixS_U _ _
theorem foldS_stN (p : ByteArray) : ∀ n j, foldS n p (64 * j) (stN p j) = stN p (j + n)
  | 0, j => rfl
  | n + 1, j => by
    rw [foldS, show 64 * j + 64 = 64 * (j + 1) by omega]
    have e : mixS (stN p j) (p.extract (64 * j) (64 * (j + 1))) = stN p (j + 1) := rfl
    rw [e, foldS_stN p n (j + 1)]
    congr 1; omega
theorem sumS_stN (s : ByteArray) : sumS s = stN (padB s) ((padB s).size / 64) := by
  unfold sumS
  have := foldS_stN (padB s) ((padB s).size / 64) 0
  simpa [stN] using this
theorem padB_size (s : ByteArray) : (padB s).size = s.size + 1 + (119 - s.size % 64) % 64 + 8 := by
  show (padL s).toArray.size = _
  have := data_length s
  simp only [padL, List.size_toArray, List.length_append, List.length_cons, List.length_replicate, lenBytes, List.length_map, List.length_range]
  omega
theorem padB_64 (s : ByteArray) : (padB s).size = 64 * ((padB s).size / 64) := by
  have := padB_size s
  omega
/-- bytes of the digest, as numbers -/
def b4 (x : Int) : List Int := [x / 16777216 % 256, x / 65536 % 256, x / 256 % 256, x % 256]
def outL (h : St) (k : Nat) : List Int := (h.list.take k).flatMap b4 ++ List.replicate (32 - 4 * k) 0
theorem b4_len (l : List Int) : (l.flatMap b4).length = 4 * l.length := by
  induction l with
  | nil => rfl
  | cons x l ih => simp only [List.flatMap_cons, List.length_append, ih, List.length_cons]; simp [b4]; omega
theorem set_next (l : List Int) (i n m : Nat) (x : Int) (hi : l.length = i) (hm : m = n + 1) : (nums .u8 (l ++ List.replicate m 0)).toArray.setIfInBounds i (.int .u8 x) = (nums .u8 ((l ++ [x]) ++ List.replicate n 0)).toArray := by
  subst hi hm
  unfold nums
  rw [List.replicate_succ]
  simp
theorem outL_set (h : St) (k : Nat) (hk : k < 8) : ((((nums .u8 (outL h k)).toArray.setIfInBounds (4 * k) (.int .u8 (h.list.getD k 0 / 16777216 % 256))).setIfInBounds (4 * k + 1) (.int .u8 (h.list.getD k 0 / 65536 % 256))).setIfInBounds (4 * k + 2) (.int .u8 (h.list.getD k 0 / 256 % 256))).setIfInBounds (4 * k + 3) (.int .u8 (h.list.getD k 0 % 256)) = (nums .u8 (outL h (k + 1))).toArray := by
  have hl : (h.list.take k).length = k := by rw [List.length_take]; show min k 8 = k; omega
  obtain ⟨P, hP⟩ : ∃ P, P = (h.list.take k).flatMap b4 := ⟨_, rfl⟩
  have hPl : P.length = 4 * k := by rw [hP, b4_len, hl]
  have e0 : outL h k = P ++ List.replicate ((32 - 4 * (k + 1)) + 3 + 1) 0 := by rw [hP]; unfold outL; congr 2; omega
  have e1 : outL h (k + 1) = P ++ b4 (h.list.getD k 0) ++ List.replicate (32 - 4 * (k + 1)) 0 := by
    unfold outL
    have hk' : k < h.list.length := hk
    rw [List.take_succ_eq_append_getElem hk', List.flatMap_append, ← hP, List.getD_eq_getElem?_getD, List.getElem?_eq_getElem hk']
    simp
  rw [e0, e1]
  rw [set_next P (4 * k) ((32 - 4 * (k + 1)) + 3) _ _ hPl rfl]
  rw [set_next _ (4 * k + 1) ((32 - 4 * (k + 1)) + 2) _ _ (by simp [hPl]) rfl]
  rw [set_next _ (4 * k + 2) ((32 - 4 * (k + 1)) + 1) _ _ (by simp [hPl]) rfl]
  rw [set_next _ (4 * k + 3) (32 - 4 * (k + 1)) _ _ (by simp [hPl]) rfl]
  congr 2
  simp [b4]
theorem outL_bytes (h : St) (hU : h.U) : outL h 8 = (h.list.flatMap bytes4).map fun b => ((b.toNat : Nat) : Int) := by
  have e : outL h 8 = h.list.flatMap b4 := by
    unfold outL
    rw [List.take_of_length_le (by show 8 ≤ 8; omega)]
    simp
  rw [e]
  unfold St.U at hU
  generalize h.list = l at hU ⊢
  induction l with
  | nil => rfl
  | cons x l ih =>
    rw [List.flatMap_cons, List.flatMap_cons, List.map_append, ih (fun y hy => hU y (List.mem_cons_of_mem _ hy))]
    congr 1
    have hx := hU x (by simp)
    unfold Sm.U at hx
    simp only [b4, bytes4, List.map_cons, List.map_nil, UInt8.toNat_ofNat']
    congr 1
    · omega
    congr 1
    · omega
    congr 1
    · omega
    congr 1
    · omega
theorem outL_length (h : St) (k : Nat) (hk : k ≤ 8) : (outL h k).length = 32 := by
  unfold outL
  rw [List.length_append, b4_len, List.length_take, List.length_replicate]
  have : h.list.length = 8 := rfl
  omega
theorem run_idx8 (L : List Int) (hL : L.length = 8) (k : Nat) (h : k < 8) (z : Int) (hz : z = k) (w : World) : (Instr.index 91 (.agg (cellsU L)) (.int .i64 z)).run Try.prog w = .ok (.int .u32 (L.getD k 0)) w := by
  subst hz
  have hs : (sizeOf 90).run Try.prog w = .ok 1 w := by kernel_rfl
  have hg : (isAgg 90).run Try.prog w = .ok false w := by kernel_rfl
  have hc := cellsU_get L k (by omega)
  have hb : (0 : Int) ≤ (k : Int) ∧ (k : Int) < ((8 : Nat) : Int) := by omega
  have hu : (underlying 91).run Try.prog w = .ok (.array 8 90) w := run_underlying Try.underlying91 w
  simp only [Instr.index, asIntOf, Sem.run_bind, Sem.run_pure, Result.andThen_ok, hu]
  rw [if_pos hb]
  simp only [Sem.run_bind, hs, Result.andThen_ok, part, hg, Int.toNat_natCast, Nat.mul_one, hc, Bool.false_eq_true, if_false, Sem.run_pure]
theorem run_at32 (g : Nat) (n : Nat) (h : n < 32) (z : Int) (hz : z = n) (w : World) : (Instr.indexAt 96 (.pointer (some ⟨g, 0, none⟩)) (.int .i64 z)).run Try.prog w = .ok (.pointer (some ⟨g, n, none⟩)) w := by
  subst hz
  have ha : Try.prog.arrayLen 96 = 32 := by kernel_rfl
  rw [run_indexAt_array w 96 ⟨g, 0, none⟩ .i64 n (by kernel_rfl), ha, if_pos ⟨by omega, by omega⟩]
  have hs : (sizeOf (Try.prog.elem 96)).run Try.prog w = .ok 1 w := by kernel_rfl
  rw [hs]
  simp [Result.andThen, add_plain]
theorem run_str {A : Option Addr} {n c : Nat} {l : List UInt8} (w : World) (h : ReadsInt w .u8 A n (l.map fun b => ((b.toNat : Nat) : Int))) : (convert 98 9 (.slice A n c)).run Try.prog w = .ok (.string ⟨l.toArray⟩) w := by
  have e := string_of_reads (P := Try.prog) (src := 98) (dst := 9) (c := c) Try.underlying98 Try.underlying5 Try.underlying9 h
  rw [str_bytes] at e
  exact e

set_option maxHeartbeats 8000000 in
set_option maxRecDepth 100000 in
theorem sum_c (s : ByteArray) (hs : s.size ≤ 140737488351232) (w : World) :
    Calls Try.prog 49 #[.string s] w fun e w' => e = .returned (.string (sumB s)) ∧ Below w.heap.size w w' := by
  go_enter Try.func49, Try.ntmps49
  go_wp2_with fail
  refine (first_c _).mono ?_
  rintro e w1 ⟨rfl, hb1⟩
  have HB1 := Lib.hid hb1
  clear hb1
  go_wp2_with fail
  refine (words_c _).mono ?_
  rintro e w2 ⟨rfl, hb2⟩
  have HB2 := Lib.hid (HB1.out.trans (hb2.mono HB1.out.size))
  clear hb2 HB1
  go_wp2_with (first | (refine Go.wpList_store_row rfl 91 (.tmp 3) (.tmp 10) rfl w2.heap.size (cellsU firstL) rfl rfl 91 _ (blk_alloc (new_ _ _ rfl) _) (by kernel_rfl) rfl (cellsU_one _) ?_) | (refine Go.wpList_store_row rfl 93 (.tmp 4) (.tmp 11) rfl (w2.heap.size + 1) (cellsU wordsL) rfl rfl 93 _ ((setRow_other _ _ _ _ (by omega)).trans (new_ _ _ (by simp))) (by kernel_rfl) rfl (cellsU_one _) ?_))
  refine (pad_c s hs _).mono ?_
  rintro e w3 ⟨rfl, hb3⟩
  have G1 : w3.heap[w2.heap.size]? = some (.cells (cellsU firstL) 91 (0, 0)) := blk_below ((setRow_other _ _ _ _ (by omega)).trans (setRow_heap _ _ _ _ _ _ (blk_alloc (new_ _ _ rfl) _))) hb3
  have G2 : w3.heap[w2.heap.size + 1]? = some (.cells (cellsU wordsL) 93 (0, 0)) := blk_below (setRow_heap _ _ _ _ _ _ ((setRow_other _ _ _ _ (by omega)).trans (new_ _ _ (by simp)))) hb3
  have HB3 := Lib.hid (below_step (below_setRow (below_setRow ((HB2.out.alloc HB2.out.size _).alloc (by have := HB2.out.size; simp; omega) _) HB2.out.size _) (by have := HB2.out.size; omega) _) hb3)
  clear hb3
  have hgb : w.heap.size ≤ w2.heap.size := HB2.out.size
  obtain ⟨p, ep⟩ : ∃ p, p = padB s := ⟨_, rfl⟩
  have hps := padB_size s
  have hp64 := padB_64 s
  rw [← ep] at hps hp64 ⊢
  have HP := Lib.hid ep
  clear ep
  obtain ⟨n, hn⟩ : ∃ n, n = p.size / 64 := ⟨_, rfl⟩
  rw [← hn] at hp64
  have HN := Lib.hid hn
  have hnb : n ≤ 2199023255552 := by omega
  have HPS := Lib.hid hps
  have HP64 := Lib.hid hp64
  clear hn hps hp64
  generalize w2.heap.size = g at G1 G2 hgb ⊢
  clear HB2
  go_wp2_with fail
  go_loopw [6] (fun i wr => ∃ j : Nat, j ≤ n ∧ i = .int .i64 (64 * (j : Int)) ∧ wr.heap[g]? = some (.cells (cellsU (stN p j).list) 91 (0, 0)) ∧ wr.heap[g + 1]? = some (.cells (cellsU wordsL) 93 (0, 0)) ∧ Hid (Below w.heap.size w wr)) (fun i _ => (64 * n - (intOf i).toNat))
  case atStart => exact ⟨0, Nat.zero_le _, rfl, G1, G2, HB3⟩
  case round =>
    clear G1 G2 HB3
    obtain ⟨j, hj, rfl, hg, hk, HB⟩ := hrel
    by_cases hlt : j < n
    · have hsz := HP64.out
      have l1 : 64 * j + 64 ≤ p.size := by omega
      have q1 : IntKind.i64.wrap (64 * (j : Int) + 64) = 64 * (j : Int) + 64 := (i64_w _).trans (Go.IntWalk.wrap64_in _ (by omega))
      have sl : ∀ w, (Instr.slice 9 (.string p) (some (.int .i64 (64 * (j : Int)))) (some (.int .i64 (64 * (j : Int) + 64))) none).run Try.prog w = .ok (.string (p.extract (64 * j) (64 * j + 64))) w := fun w => by
        have h := run_slice_string (P := Try.prog) w 9 p .i64 .i64 (64 * (j : Int)) (64 * (j : Int) + 64) Try.underlying9 (by omega) (by omega) (by omega)
        have e1 : (64 * (j : Int)).toNat = 64 * j := by omega
        have e2 : (64 * (j : Int) + 64).toNat = 64 * j + 64 := by omega
        rw [e1, e2] at h
        exact h
      have EX := Lib.hid (show (p.extract (64 * j) (64 * j + 64)).size = 64 by rw [ByteArray.size_extract]; omega)
      have lt : (64 * (j : Int)) < (p.size : Int) := by omega
      have HG := Aside0.mk (show wr.drew.heap[g]? = some (.cells (cellsU (stN p j).list) 91 (0, 0)) from hg)
      have HK := Aside0.mk (show wr.drew.heap[g + 1]? = some (.cells (cellsU wordsL) 93 (0, 0)) from hk)
      replace HB := Aside0.mk HB.out
      clear hsz l1 hg hk
      go_wp2_with fail
      refine start_ (n := 9) (S := fun w' : World => w'.heap[g]? = some (.cells (cellsU (stN p j).list) 91 (0, 0)) ∧ w'.heap[g + 1]? = some (.cells (cellsU wordsL) 93 (0, 0))) (ds := [8]) #[false, false, false, false, false, false, false, false, false] (by kernel_rfl) rfl rfl ⟨HG.out, HK.out⟩ (fun hHeld => ?_)
      replace HG := Aside0.mk hHeld.1
      replace HK := Aside0.mk hHeld.2
      replace HB := Aside0.mk (below_drew1 HB.out)
      generalize wr.drew = w1 at hHeld HG HK HB ⊢
      refine pure_ (i := 1) (N := some 21) (v := ?_) (a' := ?_) #[false, true, false, false, false, false, false, false, false] rfl rfl (by kernel_rfl) (fun _ _ _ h => h) (Or.inl ⟨by rfl, ?_⟩) ?_ ?_
      rotate_left
      · intro w'
        go_simp
        with_reducible rfl
      rotate_left
      · simp only [Act.put, List.setIfInBounds_toArray, List.set_cons_zero, List.set_cons_succ, i64_w, i32_w]
        rfl
      refine pure_ (i := 2) (N := some 22) (v := ?_) (a' := ?_) #[false, true, true, false, false, false, false, false, false] rfl rfl (by kernel_rfl) (fun _ _ _ h => h) (Or.inl ⟨by rfl, ?_⟩) ?_ ?_
      rotate_left
      · intro w'
        go_simp
        with_reducible rfl
      rotate_left
      · simp only [Act.put, List.setIfInBounds_toArray, List.set_cons_zero, List.set_cons_succ, i64_w, i32_w]
        rfl
      refine pure_ (i := 3) (N := some 23) (v := ?_) (a' := ?_) #[false, true, true, true, false, false, false, false, false] rfl rfl (by kernel_rfl) (fun _ _ _ h => h) (Or.inl ⟨by rfl, ?_⟩) ?_ ?_
      rotate_left
      · intro w'
        go_simp
        with_reducible rfl
      rotate_left
      · simp only [Act.put, List.setIfInBounds_toArray, List.set_cons_zero, List.set_cons_succ, i64_w, i32_w]
        rfl
      refine pure_ (i := 4) (N := some 24) (v := ?_) (a' := ?_) #[false, true, true, true, true, false, false, false, false] rfl rfl (by kernel_rfl) (fun _ _ _ h => h) (Or.inl ⟨by rfl, ?_⟩) ?_ ?_
      rotate_left
      · intro w'
        go_simp
        with_reducible rfl
      rotate_left
      · simp only [Act.put, List.setIfInBounds_toArray, List.set_cons_zero, List.set_cons_succ, i64_w, i32_w]
        rfl
      refine pure_ (i := 5) (N := some 25) (v := ?_) (a' := ?_) #[false, true, true, true, true, true, false, false, false] rfl rfl (by kernel_rfl) (fun _ _ _ h => h) (Or.inl ⟨by rfl, ?_⟩) ?_ ?_
      rotate_left
      · intro w'
        go_simp
        with_reducible rfl
      rotate_left
      · simp only [Act.put, List.setIfInBounds_toArray, List.set_cons_zero, List.set_cons_succ, i64_w, i32_w]
        rfl
      refine take_ (i := 0) (N := some 20) (v := .agg (cellsU (stN p j).list)) (a' := ?_) #[true, true, true, true, true, true, false, false, false] rfl rfl (by kernel_rfl) (fun _ _ _ h => h) (Or.inl ⟨by rfl, ?_⟩) hHeld ?_ ?_
      · rintro w' ⟨s0, s1⟩
        exact exec_load_row _ rfl rfl s0 Try.underlying91 rfl (by kernel_rfl)
      rotate_left
      · simp only [Act.put, List.setIfInBounds_toArray, List.set_cons_zero, List.set_cons_succ, i64_w, i32_w]
        rfl
      refine take_ (i := 6) (N := some 26) (v := .agg (cellsU wordsL)) (a' := ?_) #[true, true, true, true, true, true, true, false, false] rfl rfl (by kernel_rfl) (fun _ _ _ h => h) (Or.inl ⟨by rfl, ?_⟩) hHeld ?_ ?_
      · rintro w' ⟨s0, s1⟩
        exact exec_load_row _ rfl rfl s1 Try.underlying93 rfl (by kernel_rfl)
      rotate_left
      · simp only [Act.put, List.setIfInBounds_toArray, List.set_cons_zero, List.set_cons_succ, i64_w, i32_w]
        rfl
      refine one_ (i := 7) (N := some 27) #[true, true, true, true, true, true, true, true, false] rfl rfl (by kernel_rfl) (by decide) (fun K hK => ?_)
      refine goes_ Try.func64 (by kernel_rfl) rfl #[.agg (cellsU (stN p j).list), .string (p.extract (64 * j) (64 * j + 64)), .agg (cellsU wordsL)] (by rfl) rfl rfl (by (try simp only [List.map_toArray, List.map_cons, List.map_nil]); first | done | rfl) ?_
      refine (mixed_c (stN p j) (stN_U p j) (p.extract (64 * j) (64 * j + 64)) EX.out _).mono ?_
      rintro e w2 ⟨rfl, hb⟩
      refine ⟨_, rfl, ?_⟩
      have n0_ := Aside0.mk (blk_below HG.out hb)
      have n1_ := Aside0.mk (blk_below HK.out hb)
      have n2_ := Aside0.mk (below_step HB.out hb)
      clear HG HK HB hb
      have HG := n0_
      have HK := n1_
      have HB := n2_
      clear n0_ n1_ n2_
      refine hK.out _ _ ⟨HG.out, HK.out⟩ (fun hHeld => ?_)
      clear hK K
      refine norm_ (a' := ?_) ?_ ?_
      rotate_left
      · show Act.put _ (some 27) _ = _
        simp only [Act.put, List.setIfInBounds_toArray, List.set_cons_zero, List.set_cons_succ, i64_w, i32_w]
        rfl
      refine last_ (i := 8) (N := none) #[true, true, true, true, true, true, true, true, true] rfl rfl (by kernel_rfl) (by decide) (fun K hK => ?_)
      refine skip_ (w1 := w2.setRow g (cellsU (stN p (j + 1)).list)) (by rfl) rfl ?_ ?_
      · exact exec_store_row _ rfl rfl rfl HG.out (by kernel_rfl) rfl (cellsU_one _)
      refine hK.out _ _ ?_
      clear hK K
      refine done_ (by kernel_rfl) ?_
      clear sl q1 lt
      go_wp2_with fail
      go_roundw
      case rel =>
        refine ⟨j + 1, by omega, ?_, setRow_heap _ _ _ _ _ _ HG.out, (setRow_other _ _ _ _ (by omega)).trans HK.out, Lib.hid (below_setRow HB.out (by omega) _)⟩
        first | rfl | (congr 1; omega) | go_num
      case measure => simp [intOf]; omega
    · obtain rfl : j = n := by omega
      have hsz := HP64.out
      have lt : ¬ (64 * (j : Int)) < (p.size : Int) := by omega
      clear hsz hlt hj
      obtain ⟨w4, rfl⟩ : ∃ w4 : World, w4 = wr := ⟨_, rfl⟩
      obtain ⟨S, eS⟩ : ∃ S, S = stN p j := ⟨_, rfl⟩
      rw [← eS] at hg
      have ES := Lib.hid eS
      clear eS hk
      go_wp2_with (refine wpList_load_row rfl 91 _ rfl g rfl 91 _ (0, 0) _ (blk_alloc hg _) Try.underlying91 rfl (by kernel_rfl) ?_)
      go_loopw [29] (fun s wr => ∃ k : Nat, k ≤ 8 ∧ s = .int .i64 k ∧ wr.heap[w4.heap.size]? = some (.cells (nums .u8 (outL S k)).toArray 96 (0, 0)) ∧ Hid (Below w.heap.size w wr)) (fun s _ => 8 - (intOf s).toNat)
      case atStart => exact ⟨0, by omega, rfl, new_ _ _ rfl, Lib.hid (HB.out.alloc HB.out.size _)⟩
      case round =>
        clear hg
        have hge : w.heap.size ≤ w4.heap.size := HB.out.size
        clear HB
        obtain ⟨k, hk, rfl, ho, HB⟩ := hrel
        by_cases hlt : k < 8
        · have hl : (nums .u8 (outL S k)).toArray.size = 32 := by simp [nums, outL_length S k hk]
          have cc : ∀ i, i < 32 → ∃ v, wr.cell? ⟨w4.heap.size, i, none⟩ = some v := fun i hi => ⟨_, (blk_cell ho i).trans (Array.getElem?_eq_getElem (by omega))⟩
          obtain ⟨v0, c0⟩ := cc (4 * k) (by omega)
          obtain ⟨v1, c1⟩ := cc (4 * k + 1) (by omega)
          obtain ⟨v2, c2⟩ := cc (4 * k + 2) (by omega)
          obtain ⟨v3, c3⟩ := cc (4 * k + 3) (by omega)
          have f0 := blk_frozen ho (4 * k)
          have f1 := blk_frozen ho (4 * k + 1)
          have f2 := blk_frozen ho (4 * k + 2)
          have f3 := blk_frozen ho (4 * k + 3)
          have ri := fun w' => run_idx8 S.list rfl k hlt (k : Int) rfl w'
          have r0 := fun w' => run_at32 w4.heap.size (4 * k) (by omega) (4 * (k : Int)) (by omega) w'
          have r1 := fun w' => run_at32 w4.heap.size (4 * k + 1) (by omega) (4 * (k : Int) + 1) (by omega) w'
          have r2 := fun w' => run_at32 w4.heap.size (4 * k + 2) (by omega) (4 * (k : Int) + 2) (by omega) w'
          have r3 := fun w' => run_at32 w4.heap.size (4 * k + 3) (by omega) (4 * (k : Int) + 3) (by omega) w'
          have HO := Lib.hid ho
          clear hl cc ho
          go_wp2_with fail
          go_roundw
          case rel =>
            refine ⟨k + 1, by omega, by go_num, ?_, Lib.hid (below_set (below_set (below_set (below_set HB.out hge) hge) hge) hge)⟩
            refine (blk_set (blk_set (blk_set (blk_set HO.out _ _) _ _) _ _) _ _).trans ?_
            rw [← outL_set S k hlt]
            simp only [List.getD_eq_getElem?_getD]
          case measure => simp [intOf]; omega
        · obtain rfl : k = 8 := by omega
          have hU : S.U := by rw [ES.out]; exact stN_U _ _
          rw [outL_bytes S hU] at ho
          have hl : (S.list.flatMap bytes4).length = 32 := by
            have := congrArg List.length (outL_bytes S hU)
            rw [outL_length S 8 (by omega)] at this
            simpa using this.symm
          have hrd : ReadsInt wr .u8 (some ⟨w4.heap.size, 0, none⟩) 32 ((S.list.flatMap bytes4).map fun b => ((b.toNat : Nat) : Int)) := by
            refine ⟨by simpa using hl, by omega, fun _ => ⟨_, rfl, fun i hi => ?_⟩⟩
            rw [add_plain]
            refine (blk_cell ho i).trans ?_
            simp [nums, List.getElem?_eq_getElem (show i < (S.list.flatMap bytes4).length by omega)]
          have cv := run_str (c := 32) wr hrd
          have HS := Lib.hid hU
          clear hrd hl ho hU hlt hk
          go_wp2_with fail
          go_ret
          refine ⟨?_, HB.out⟩
          show Ending.returned (.string ⟨(S.list.flatMap bytes4).toArray⟩) = _
          unfold sumB
          rw [sumS_stN, ← HP.out, ← HN.out, ← ES.out]
end Go.Proofs.Ytiknkkkfkifahaa.Sa
end
