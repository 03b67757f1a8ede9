import Derived.Lib.EndianBits
import Derived.Laws.BitsAllLaws
import Derived.RowKit
/-
  The digest, plain: words turned, the schedule, a round, a state behind a block, a text made longer, bytes in digits. No program. By an AI agent.
-/
namespace Go.Proofs.Ytefdokolbdnjnaa.Sm
open Go Go.RowKit

/-- a word turned right by k -/
def rotI (x : Int) (k : Nat) : Int := bits .or .u32 (IntKind.u32.wrap (x * 2 ^ (32 - k))) (x / 2 ^ k)
def U (x : Int) : Prop := 0 ≤ x ∧ x < 4294967296
theorem U.wrap (n : Int) : U (IntKind.u32.wrap n) := by rw [IntKind.wrap_u32]; unfold U; omega
theorem wrap_id {n : Int} (h : U n) : IntKind.u32.wrap n = n := wraps_u32 n h.1 h.2
theorem U.bits (op : BinOp) (x y : Int) (h : op = .and ∨ op = .or ∨ op = .xor) : U (bits op .u32 x y) := by
  rcases h with rfl | rfl | rfl <;> exact U.wrap _
theorem U.div {x : Int} (h : U x) (k : Nat) : U (x / 2 ^ k) := by
  obtain ⟨a, rfl⟩ := Int.eq_ofNat_of_zero_le h.1
  have h2 : a < 4294967296 := by have := h.2; omega
  have := Nat.div_le_self a (2 ^ k)
  constructor
  · exact_mod_cast Nat.zero_le _
  · have h3 : ((a / 2 ^ k : Nat) : Int) < 4294967296 := by omega
    simpa using h3
theorem rotI_U (x : Int) (k : Nat) : U (rotI x k) := U.bits _ _ _ (.inr (.inl rfl))
/-- turned, as a sum -/
theorem rotI_sum {x : Int} (h : U x) (k : Nat) (h1 : 1 ≤ k) (h2 : k ≤ 31) : rotI x k = x / 2 ^ k + (x % 2 ^ k) * 2 ^ (32 - k) := by
  obtain ⟨a, rfl⟩ := Int.eq_ofNat_of_zero_le h.1
  have ha : a < 4294967296 := by have := h.2; omega
  have hp : 2 ^ k * 2 ^ (32 - k) = 4294967296 := by rw [← Nat.pow_add, show k + (32 - k) = 32 by omega]
  have hw : IntKind.u32.wrap ((a : Int) * 2 ^ (32 - k)) = (((a % 2 ^ k) * 2 ^ (32 - k) : Nat) : Int) := by
    rw [IntKind.wrap_u32]
    have e : (a * 2 ^ (32 - k)) % 4294967296 = (a % 2 ^ k) * 2 ^ (32 - k) := by
      rw [← hp, Nat.mul_mod_mul_right]
    rw [← e]
    simp
  have hm : a % 2 ^ k < 2 ^ k := Nat.mod_lt _ (Nat.two_pow_pos k)
  have hx1 : (a % 2 ^ k) * 2 ^ (32 - k) < 4294967296 := by
    rw [← hp]; exact Nat.mul_lt_mul_of_pos_right hm (Nat.two_pow_pos _)
  have hdv : a / 2 ^ k < 2 ^ (32 - k) := by
    rw [Nat.div_lt_iff_lt_mul (Nat.two_pow_pos k), Nat.mul_comm, hp]; exact ha
  have hdl := Nat.div_le_self a (2 ^ k)
  unfold rotI
  rw [hw]
  have hd : ((a : Int) / 2 ^ k) = ((a / 2 ^ k : Nat) : Int) := by simp
  have hmm : ((a : Int) % 2 ^ k) = ((a % 2 ^ k : Nat) : Int) := by simp
  have w32 : (2 : Int) ^ 32 = 4294967296 := by decide
  have c1 : (((a % 2 ^ k) * 2 ^ (32 - k) : Nat) : Int) % 2 ^ (32 - k) = 0 := by
    have : ((a % 2 ^ k) * 2 ^ (32 - k)) % 2 ^ (32 - k) = 0 := Nat.mul_mod_left _ _
    exact_mod_cast this
  have c2 : (((a % 2 ^ k) * 2 ^ (32 - k) : Nat) : Int) < 2 ^ 32 := by rw [w32]; omega
  have c3 : ((a / 2 ^ k : Nat) : Int) < 2 ^ (32 - k) := by exact_mod_cast hdv
  have c4 : ((a / 2 ^ k : Nat) : Int) < 2 ^ 32 := by rw [w32]; omega
  rw [hd, hmm, bits_join .u32 32 (by decide) wraps_u32 (32 - k) _ _ (Int.natCast_nonneg _) c1 c2 (Int.natCast_nonneg _) c3 c4, Int.add_comm]
  simp only [Int.natCast_mul, Int.natCast_pow, Int.cast_ofNat_Int]
/-- all bits turned round -/
theorem not_u32 {x : Int} (h : U x) : bits .xor .u32 (-1) x = 4294967295 - x := by
  obtain ⟨a, rfl⟩ := Int.eq_ofNat_of_zero_le h.1
  have ha : a < 4294967296 := by have := h.2; omega
  show IntKind.u32.wrap ((BitVec.ofInt 32 (-1) ^^^ BitVec.ofInt 32 (a : Int)).toNat : Int) = _
  have h1 : BitVec.ofInt 32 (-1) = BitVec.allOnes 32 := by decide
  rw [h1, BitVec.allOnes_xor, BitVec.toNat_not, IntKind.wrap_u32]
  simp
  omega
theorem not_max {x : Int} (h : U x) : bits .xor .u32 4294967295 x = 4294967295 - x := by
  rw [← not_u32 h]
  unfold bits
  have e : BitVec.ofInt IntKind.u32.bits 4294967295 = BitVec.ofInt IntKind.u32.bits (-1) := by decide
  rw [e]
/-- four bytes as a word -/
theorem word_join {a b c d : Int} (ha : 0 ≤ a ∧ a ≤ 255) (hb : 0 ≤ b ∧ b ≤ 255) (hc : 0 ≤ c ∧ c ≤ 255) (hd : 0 ≤ d ∧ d ≤ 255) :
    bits .or .u32 (bits .or .u32 (bits .or .u32 (IntKind.u32.wrap (a * 16777216)) (IntKind.u32.wrap (b * 65536))) (IntKind.u32.wrap (c * 256))) d = a * 16777216 + b * 65536 + c * 256 + d := by
  have e1 : IntKind.u32.wrap (a * 16777216) = a * 16777216 := wrap_id ⟨by omega, by omega⟩
  have e2 : IntKind.u32.wrap (b * 65536) = b * 65536 := wrap_id ⟨by omega, by omega⟩
  have e3 : IntKind.u32.wrap (c * 256) = c * 256 := wrap_id ⟨by omega, by omega⟩
  rw [e1, e2, e3]
  have w : (2 : Int) ^ 32 = 4294967296 := by decide
  rw [bits_join .u32 32 (by decide) wraps_u32 24 (a * 16777216) (b * 65536) (by omega) (by rw [show (2 : Int) ^ 24 = 16777216 by decide]; omega) (by omega) (by omega) (by rw [show (2 : Int) ^ 24 = 16777216 by decide]; omega) (by omega)]
  rw [bits_join .u32 32 (by decide) wraps_u32 16 (a * 16777216 + b * 65536) (c * 256) (by omega) (by rw [show (2 : Int) ^ 16 = 65536 by decide]; omega) (by omega) (by omega) (by rw [show (2 : Int) ^ 16 = 65536 by decide]; omega) (by omega)]
  rw [bits_join .u32 32 (by decide) wraps_u32 8 (a * 16777216 + b * 65536 + c * 256) d (by omega) (by rw [show (2 : Int) ^ 8 = 256 by decide]; omega) (by omega) (by omega) (by rw [show (2 : Int) ^ 8 = 256 by decide]; omega) (by omega)]

def firstL : List Int := [1779033703, 3144134277, 1013904242, 2773480762, 1359893119, 2600822924, 528734635, 1541459225]
def wordsL : List Int := [1116352408, 1899447441, 3049323471, 3921009573, 961987163, 1508970993, 2453635748, 2870763221, 3624381080, 310598401, 607225278, 1426881987, 1925078388, 2162078206, 2614888103, 3248222580, 3835390401, 4022224774, 264347078, 604807628, 770255983, 1249150122, 1555081692, 1996064986, 2554220882, 2821834349, 2952996808, 3210313671, 3336571891, 3584528711, 113926993, 338241895, 666307205, 773529912, 1294757372, 1396182291, 1695183700, 1986661051, 2177026350, 2456956037, 2730485921, 2820302411, 3259730800, 3345764771, 3516065817, 3600352804, 4094571909, 275423344, 430227734, 506948616, 659060556, 883997877, 958139571, 1322822218, 1537002063, 1747873779, 1955562222, 2024104815, 2227730452, 2361852424, 2428436474, 2756734187, 3204031479, 3329325298]

/-- a byte of a text -/
def byt (s : ByteArray) (i : Nat) : Int := ((s.data.toList.getD i 0).toNat : Int)
theorem byt_range (s : ByteArray) (i : Nat) : 0 ≤ byt s i ∧ byt s i ≤ 255 := by
  unfold byt
  have := (s.data.toList.getD i 0).toNat_lt
  omega
/-- a block's word -/
def be (s : ByteArray) (i : Nat) : Int := byt s (4 * i) * 16777216 + byt s (4 * i + 1) * 65536 + byt s (4 * i + 2) * 256 + byt s (4 * i + 3)
theorem be_U (s : ByteArray) (i : Nat) : U (be s i) := by
  have h1 := byt_range s (4 * i); have h2 := byt_range s (4 * i + 1); have h3 := byt_range s (4 * i + 2); have h4 := byt_range s (4 * i + 3)
  unfold be U; omega
def s0 (x : Int) : Int := bits .xor .u32 (bits .xor .u32 (rotI x 7) (rotI x 18)) (x / 8)
def s1 (x : Int) : Int := bits .xor .u32 (bits .xor .u32 (rotI x 17) (rotI x 19)) (x / 1024)
def nextW (l : List Int) (i : Nat) : Int := IntKind.u32.wrap (IntKind.u32.wrap (IntKind.u32.wrap (l.getD (i - 16) 0 + s0 (l.getD (i - 15) 0)) + l.getD (i - 7) 0) + s1 (l.getD (i - 2) 0))
def w16 (s : ByteArray) (n : Nat) : List Int := (List.range n).map (be s)
def sched (l : List Int) : Nat → List Int
  | 0 => l
  | n + 1 => sched l n ++ [nextW (sched l n) (16 + n)]
def schedF : Nat → List Int → Nat → List Int
  | 0, l, _ => l
  | n + 1, l, i => schedF n (l ++ [nextW l i]) (i + 1)
structure St where
  a : Int
  b : Int
  c : Int
  d : Int
  e : Int
  f : Int
  g : Int
  h : Int
def St.list (s : St) : List Int := [s.a, s.b, s.c, s.d, s.e, s.f, s.g, s.h]
def St.U (s : St) : Prop := ∀ x ∈ s.list, Sm.U x
def S0 (a : Int) : Int := bits .xor .u32 (bits .xor .u32 (rotI a 2) (rotI a 13)) (rotI a 22)
def S1 (e : Int) : Int := bits .xor .u32 (bits .xor .u32 (rotI e 6) (rotI e 11)) (rotI e 25)
def chI (e f g : Int) : Int := bits .xor .u32 (bits .and .u32 e f) (bits .and .u32 (4294967295 - e) g)
def majI (a b c : Int) : Int := bits .xor .u32 (bits .xor .u32 (bits .and .u32 a b) (bits .and .u32 a c)) (bits .and .u32 b c)
def tI (s : St) (k w : Int) : Int := IntKind.u32.wrap (IntKind.u32.wrap (IntKind.u32.wrap (IntKind.u32.wrap (s.h + S1 s.e) + chI s.e s.f s.g) + k) + w)
def uI (s : St) : Int := IntKind.u32.wrap (S0 s.a + majI s.a s.b s.c)
def rnd (s : St) (k w : Int) : St := ⟨IntKind.u32.wrap (tI s k w + uI s), s.a, s.b, s.c, IntKind.u32.wrap (s.d + tI s k w), s.e, s.f, s.g⟩
def rnds (s : St) (K W : List Int) : Nat → St
  | 0 => s
  | n + 1 => rnd (rnds s K W n) (K.getD n 0) (W.getD n 0)
def addSt (s h : St) : St := ⟨IntKind.u32.wrap (s.a + h.a), IntKind.u32.wrap (s.b + h.b), IntKind.u32.wrap (s.c + h.c), IntKind.u32.wrap (s.d + h.d), IntKind.u32.wrap (s.e + h.e), IntKind.u32.wrap (s.f + h.f), IntKind.u32.wrap (s.g + h.g), IntKind.u32.wrap (s.h + h.h)⟩
def wsOf (b : ByteArray) : List Int := sched (w16 b 16) 48
/-- a state behind a block -/
def mixS (h : St) (b : ByteArray) : St := addSt (rnds h wordsL (wsOf b) 64) h
def firstS : St := ⟨1779033703, 3144134277, 1013904242, 2773480762, 1359893119, 2600822924, 528734635, 1541459225⟩

theorem sched_length (l : List Int) (n : Nat) : (sched l n).length = l.length + n := by
  induction n with
  | zero => rfl
  | succ n ih => simp [sched, ih]; omega
theorem w16_length (s : ByteArray) (n : Nat) : (w16 s n).length = n := by simp [w16]
theorem w16_succ (s : ByteArray) (n : Nat) : w16 s (n + 1) = w16 s n ++ [be s n] := by simp [w16, List.range_succ]
theorem nextW_U (l : List Int) (i : Nat) : U (nextW l i) := U.wrap _
theorem w16_U (s : ByteArray) (n : Nat) : ∀ x ∈ w16 s n, U x := by
  intro x hx
  obtain ⟨i, _, rfl⟩ := List.mem_map.1 hx
  exact be_U s i
theorem sched_U {l : List Int} (h : ∀ x ∈ l, U x) (n : Nat) : ∀ x ∈ sched l n, U x := by
  induction n with
  | zero => exact h
  | succ n ih =>
    intro x hx
    rcases List.mem_append.1 hx with hx | hx
    · exact ih x hx
    · obtain rfl := List.mem_singleton.1 hx
      exact nextW_U _ _
theorem getD_U {l : List Int} (h : ∀ x ∈ l, U x) (i : Nat) : U (l.getD i 0) := by
  rw [List.getD_eq_getElem?_getD]
  cases hi : l[i]? with
  | none => exact ⟨by decide, by decide⟩
  | some x => exact h x (List.mem_of_getElem? hi)
theorem rnd_U {s : St} (h : s.U) (k w : Int) : (rnd s k w).U := by
  have m := fun x hx => h x hx
  intro x hx
  simp only [rnd, St.list, List.mem_cons, List.not_mem_nil, or_false] at hx
  simp only [St.list, List.mem_cons, List.not_mem_nil, or_false] at m
  rcases hx with rfl | rfl | rfl | rfl | rfl | rfl | rfl | rfl
  · exact U.wrap _
  · exact m _ (by simp)
  · exact m _ (by simp)
  · exact m _ (by simp)
  · exact U.wrap _
  · exact m _ (by simp)
  · exact m _ (by simp)
  · exact m _ (by simp)
theorem rnds_U {s : St} (h : s.U) (K W : List Int) (n : Nat) : (rnds s K W n).U := by
  induction n with
  | zero => exact h
  | succ n ih => exact rnd_U ih _ _
theorem addSt_U (s h : St) : (addSt s h).U := by
  intro x hx
  simp only [addSt, St.list, List.mem_cons, List.not_mem_nil, or_false] at hx
  rcases hx with rfl | rfl | rfl | rfl | rfl | rfl | rfl | rfl <;> exact U.wrap _
theorem mixS_U (h : St) (b : ByteArray) : (mixS h b).U := addSt_U _ _

/-! ### A text made longer, its digest, bytes in digits -/
def lenBytes (n : Nat) : List UInt8 := (List.range 8).map fun i => UInt8.ofNat (n * 8 / 256 ^ (7 - i))
def padL (s : ByteArray) : List UInt8 := s.data.toList ++ 128 :: (List.replicate ((119 - s.size % 64) % 64) 0 ++ lenBytes s.size)
def padB (s : ByteArray) : ByteArray := ⟨(padL s).toArray⟩
def foldS : Nat → ByteArray → Nat → St → St
  | 0, _, _, h => h
  | n + 1, p, at_, h => foldS n p (at_ + 64) (mixS h (p.extract at_ (at_ + 64)))
def sumS (s : ByteArray) : St := foldS ((padB s).size / 64) (padB s) 0 firstS
def bytes4 (x : Int) : List UInt8 := [UInt8.ofNat (x / 16777216).toNat, UInt8.ofNat (x / 65536).toNat, UInt8.ofNat (x / 256).toNat, UInt8.ofNat x.toNat]
def sumB (s : ByteArray) : ByteArray := ⟨((sumS s).list.flatMap bytes4).toArray⟩
def digit (n : Nat) : UInt8 := if n < 10 then UInt8.ofNat (48 + n) else UInt8.ofNat (87 + n)
def hexL (l : List UInt8) : List UInt8 := l.flatMap fun b => [digit (b.toNat / 16), digit (b.toNat % 16)]
def hexB (s : ByteArray) : ByteArray := ⟨(hexL s.data.toList).toArray⟩

theorem abc : hexB (sumB "abc".toUTF8) = "ba7816bf8f01cfea414140de5dae2223b00361a396177a9cb410ff61f20015ad".toUTF8 := by decide +kernel
end Go.Proofs.Ytefdokolbdnjnaa.Sm
