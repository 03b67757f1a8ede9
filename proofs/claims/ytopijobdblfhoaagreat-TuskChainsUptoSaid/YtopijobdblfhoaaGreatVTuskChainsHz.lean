import Derived.Lib.EndianBits
import Derived.Laws.BitsAllLaws
import Derived.RowKit
import Derived.Test.YtopijobdblfhoaaGreatProg
import Derived.Test.YtopijobdblfhoaaGreatVTuskChainsWWords
import Derived.Test.YtopijobdblfhoaaGreatVTuskChainsWLast
import Derived.Test.YtopijobdblfhoaaGreatVTuskChainsWTab
import Derived.WalkKit
import Derived.IntWalk
import Derived.Lib.Hide
import Derived.Deep.WholeRow
import Derived.WalkMore
import Derived.Outline
import Derived.Laws.CopyOwn
import Derived.Test.YtopijobdblfhoaaGreatVTuskChainsWMore
import Derived.StillTailTactics
import Derived.Deep.CutRange
import Derived.Deep.QuietTactic
import Derived.BigQuiet
import Derived.LoopTactic
import Derived.Lib.Repeat
set_option linter.unusedVariables false
set_option linter.unusedSimpArgs false
/- Trimmed by a program. By an AI agent. -/
section
namespace Go.Proofs.YtopijobdblfhoaaGreat.Sm
open Go Go.RowKit

def Qf2 (x : Int) (k : Nat) : Int := bits .or .u32 (IntKind.u32.wrap (x * 2 ^ (32 - k))) (x / 2 ^ k)
def U (x : Int) : Prop := 0 ≤ x ∧ x < 4294967296
theorem U.wrap (n : Int) : U (IntKind.u32.wrap n) := by rw [IntKind.wrap_u32]; unfold U; omega
theorem Qdu {n : Int} (h : U n) : IntKind.u32.wrap n = n := wraps_u32 n h.1 h.2
theorem U.bits (op : BinOp) (x y : Int) (h : op = .and ∨ op = .or ∨ op = .xor) : U (bits op .u32 x y) := by
 rcases h with rfl | rfl | rfl <;> exact U.wrap _
theorem rotI_U (x : Int) (k : Nat) : U (Qf2 x k) := U.bits _ _ _ (.inr (.inl rfl))
theorem Qpl {x : Int} (h : U x) (k : Nat) (h1 : 1 ≤ k) (h2 : k ≤ 31) : Qf2 x k = x / 2 ^ k + (x % 2 ^ k) * 2 ^ (32 - k) := by
 obtain ⟨a, rfl⟩ := Int.eq_ofNat_of_zero_le h.1; have ha : a < 4294967296 := by have := h.2; omega
 have hp : 2 ^ k * 2 ^ (32 - k) = 4294967296 := by rw [← Nat.pow_add, show k + (32 - k) = 32 by omega]
 have hw : IntKind.u32.wrap ((a : Int) * 2 ^ (32 - k)) = (((a % 2 ^ k) * 2 ^ (32 - k) : Nat) : Int) := by
  rw [IntKind.wrap_u32]
  have e : (a * 2 ^ (32 - k)) % 4294967296 = (a % 2 ^ k) * 2 ^ (32 - k) := by
   rw [← hp, Nat.mul_mod_mul_right]
  rw [← e]; simp
 have hm : a % 2 ^ k < 2 ^ k := Nat.mod_lt _ (Nat.two_pow_pos k)
 have hx1 : (a % 2 ^ k) * 2 ^ (32 - k) < 4294967296 := by
  rw [← hp]; exact Nat.mul_lt_mul_of_pos_right hm (Nat.two_pow_pos _)
 have hdv : a / 2 ^ k < 2 ^ (32 - k) := by
  rw [Nat.div_lt_iff_lt_mul (Nat.two_pow_pos k), Nat.mul_comm, hp]; exact ha
 have hdl := Nat.div_le_self a (2 ^ k); unfold Qf2; rw [hw]; have hd : ((a : Int) / 2 ^ k) = ((a / 2 ^ k : Nat) : Int) := by simp
 have hmm : ((a : Int) % 2 ^ k) = ((a % 2 ^ k : Nat) : Int) := by simp
 have w32 : (2 : Int) ^ 32 = 4294967296 := by decide
 have c1 : (((a % 2 ^ k) * 2 ^ (32 - k) : Nat) : Int) % 2 ^ (32 - k) = 0 := by
  have : ((a % 2 ^ k) * 2 ^ (32 - k)) % 2 ^ (32 - k) = 0 := Nat.mul_mod_left _ _; exact_mod_cast this
 have c2 : (((a % 2 ^ k) * 2 ^ (32 - k) : Nat) : Int) < 2 ^ 32 := by rw [w32]; omega
 have c3 : ((a / 2 ^ k : Nat) : Int) < 2 ^ (32 - k) := by exact_mod_cast hdv
 have c4 : ((a / 2 ^ k : Nat) : Int) < 2 ^ 32 := by rw [w32]; omega
 rw [hd, hmm, bits_join .u32 32 (by decide) wraps_u32 (32 - k) _ _ (Int.natCast_nonneg _) c1 c2 (Int.natCast_nonneg _) c3 c4, Int.add_comm]; simp only [Int.natCast_mul, Int.natCast_pow, Int.cast_ofNat_Int]
def Qh6 : List Int := [1779033703, 3144134277, 1013904242, 2773480762, 1359893119, 2600822924, 528734635, 1541459225]
def Qc1 : List Int := [1116352408, 1899447441, 3049323471, 3921009573, 961987163, 1508970993, 2453635748, 2870763221, 3624381080, 310598401, 607225278, 1426881987, 1925078388, 2162078206, 2614888103, 3248222580, 3835390401, 4022224774, 264347078, 604807628, 770255983, 1249150122, 1555081692, 1996064986, 2554220882, 2821834349, 2952996808, 3210313671, 3336571891, 3584528711, 113926993, 338241895, 666307205, 773529912, 1294757372, 1396182291, 1695183700, 1986661051, 2177026350, 2456956037, 2730485921, 2820302411, 3259730800, 3345764771, 3516065817, 3600352804, 4094571909, 275423344, 430227734, 506948616, 659060556, 883997877, 958139571, 1322822218, 1537002063, 1747873779, 1955562222, 2024104815, 2227730452, 2361852424, 2428436474, 2756734187, 3204031479, 3329325298]

def byt (s : ByteArray) (i : Nat) : Int := ((s.data.toList.getD i 0).toNat : Int)
theorem Qbz (s : ByteArray) (i : Nat) : 0 ≤ byt s i ∧ byt s i ≤ 255 := by
 unfold byt; have := (s.data.toList.getD i 0).toNat_lt; omega
def be (s : ByteArray) (i : Nat) : Int := byt s (4 * i) * 16777216 + byt s (4 * i + 1) * 65536 + byt s (4 * i + 2) * 256 + byt s (4 * i + 3)
theorem be_U (s : ByteArray) (i : Nat) : U (be s i) := by
 have h1 := Qbz s (4 * i); have h2 := Qbz s (4 * i + 1); have h3 := Qbz s (4 * i + 2); have h4 := Qbz s (4 * i + 3); unfold be U; omega
def s0 (x : Int) : Int := bits .xor .u32 (bits .xor .u32 (Qf2 x 7) (Qf2 x 18)) (x / 8)
def s1 (x : Int) : Int := bits .xor .u32 (bits .xor .u32 (Qf2 x 17) (Qf2 x 19)) (x / 1024)
def Qo6 (l : List Int) (i : Nat) : Int := IntKind.u32.wrap (IntKind.u32.wrap (IntKind.u32.wrap (l.getD (i - 16) 0 + s0 (l.getD (i - 15) 0)) + l.getD (i - 7) 0) + s1 (l.getD (i - 2) 0))
def w16 (s : ByteArray) (n : Nat) : List Int := (List.range n).map (be s)
def Qca (l : List Int) : Nat → List Int
 | 0 => l
 | n + 1 => Qca l n ++ [Qo6 (Qca l n) (16 + n)]
structure St where
 a : Int
 b : Int
 c : Int
 d : Int
 e : Int
 f : Int
 g : Int
 h : Int
def St.list (s : St) : List Int := [s.a, s.b, s.c, s.d, s.e, s.f, s.g, s.h]
def St.U (s : St) : Prop := ∀ x ∈ s.list, Sm.U x
def S0 (a : Int) : Int := bits .xor .u32 (bits .xor .u32 (Qf2 a 2) (Qf2 a 13)) (Qf2 a 22)
def S1 (e : Int) : Int := bits .xor .u32 (bits .xor .u32 (Qf2 e 6) (Qf2 e 11)) (Qf2 e 25)
def chI (e f g : Int) : Int := bits .xor .u32 (bits .and .u32 e f) (bits .and .u32 (4294967295 - e) g)
def majI (a b c : Int) : Int := bits .xor .u32 (bits .xor .u32 (bits .and .u32 a b) (bits .and .u32 a c)) (bits .and .u32 b c)
def tI (s : St) (k w : Int) : Int := IntKind.u32.wrap (IntKind.u32.wrap (IntKind.u32.wrap (IntKind.u32.wrap (s.h + S1 s.e) + chI s.e s.f s.g) + k) + w)
def uI (s : St) : Int := IntKind.u32.wrap (S0 s.a + majI s.a s.b s.c)
def rnd (s : St) (k w : Int) : St := ⟨IntKind.u32.wrap (tI s k w + uI s), s.a, s.b, s.c, IntKind.u32.wrap (s.d + tI s k w), s.e, s.f, s.g⟩
def rnds (s : St) (K W : List Int) : Nat → St
 | 0 => s
 | n + 1 => rnd (rnds s K W n) (K.getD n 0) (W.getD n 0)
def Qo0 (s h : St) : St := ⟨IntKind.u32.wrap (s.a + h.a), IntKind.u32.wrap (s.b + h.b), IntKind.u32.wrap (s.c + h.c), IntKind.u32.wrap (s.d + h.d), IntKind.u32.wrap (s.e + h.e), IntKind.u32.wrap (s.f + h.f), IntKind.u32.wrap (s.g + h.g), IntKind.u32.wrap (s.h + h.h)⟩
def Qnl (b : ByteArray) : List Int := Qca (w16 b 16) 48
def Qpa (h : St) (b : ByteArray) : St := Qo0 (rnds h Qc1 (Qnl b) 64) h
def Qjs : St := ⟨1779033703, 3144134277, 1013904242, 2773480762, 1359893119, 2600822924, 528734635, 1541459225⟩

theorem Qd8 (l : List Int) (n : Nat) : (Qca l n).length = l.length + n := by
 induction n with
 | zero => rfl
 | succ n ih => simp [Qca, ih]; omega
theorem Qd3 (s : ByteArray) (n : Nat) : (w16 s n).length = n := by simp [w16]
theorem Qod (s : ByteArray) (n : Nat) : w16 s (n + 1) = w16 s n ++ [be s n] := by simp [w16, List.range_succ]
theorem nextW_U (l : List Int) (i : Nat) : U (Qo6 l i) := U.wrap _
theorem w16_U (s : ByteArray) (n : Nat) : ∀ x ∈ w16 s n, U x := by
 intro x hx; obtain ⟨i, _, rfl⟩ := List.mem_map.1 hx; exact be_U s i
theorem sched_U {l : List Int} (h : ∀ x ∈ l, U x) (n : Nat) : ∀ x ∈ Qca l n, U x := by
 induction n with
 | zero => exact h
 | succ n ih =>
  intro x hx
  rcases List.mem_append.1 hx with hx | hx
  ·
   exact ih x hx
  ·
   obtain rfl := List.mem_singleton.1 hx; exact nextW_U _ _
theorem Qmy {l : List Int} (h : ∀ x ∈ l, U x) (i : Nat) : U (l.getD i 0) := by
 rw [List.getD_eq_getElem?_getD]
 cases hi : l[i]? with
 | none => exact ⟨by decide, by decide⟩
 | some x => exact h x (List.mem_of_getElem? hi)
theorem rnd_U {s : St} (h : s.U) (k w : Int) : (rnd s k w).U := by
 have m := fun x hx => h x hx
 intro x hx; simp only [rnd, St.list, List.mem_cons, List.not_mem_nil, or_false] at hx; simp only [St.list, List.mem_cons, List.not_mem_nil, or_false] at m
 rcases hx with rfl | rfl | rfl | rfl | rfl | rfl | rfl | rfl
 ·
  exact U.wrap _
 ·
  exact m _ (by simp)
 ·
  exact m _ (by simp)
 ·
  exact m _ (by simp)
 ·
  exact U.wrap _
 ·
  exact m _ (by simp)
 ·
  exact m _ (by simp)
 ·
  exact m _ (by simp)
theorem rnds_U {s : St} (h : s.U) (K W : List Int) (n : Nat) : (rnds s K W n).U := by
 induction n with
 | zero => exact h
 | succ n ih => exact rnd_U ih _ _
theorem addSt_U (s h : St) : (Qo0 s h).U := by
 intro x hx; simp only [Qo0, St.list, List.mem_cons, List.not_mem_nil, or_false] at hx
 rcases hx with rfl | rfl | rfl | rfl | rfl | rfl | rfl | rfl <;> exact U.wrap _
theorem mixS_U (h : St) (b : ByteArray) : (Qpa h b).U := addSt_U _ _

def Qep (n : Nat) : List UInt8 := (List.range 8).map fun i => UInt8.ofNat (n * 8 / 256 ^ (7 - i))
def padL (s : ByteArray) : List UInt8 := s.data.toList ++ 128 :: (List.replicate ((119 - s.size % 64) % 64) 0 ++ Qep s.size)
def Qlk (s : ByteArray) : ByteArray := ⟨(padL s).toArray⟩
def Qnw : Nat → ByteArray → Nat → St → St
 | 0, _, _, h => h
 | n + 1, p, at_, h => Qnw n p (at_ + 64) (Qpa h (p.extract at_ (at_ + 64)))
def sumS (s : ByteArray) : St := Qnw ((Qlk s).size / 64) (Qlk s) 0 Qjs
def Qht (x : Int) : List UInt8 := [UInt8.ofNat (x / 16777216).toNat, UInt8.ofNat (x / 65536).toNat, UInt8.ofNat (x / 256).toNat, UInt8.ofNat x.toNat]
def sumB (s : ByteArray) : ByteArray := ⟨((sumS s).list.flatMap Qht).toArray⟩
end Go.Proofs.YtopijobdblfhoaaGreat.Sm
end
section
namespace Go.Proofs.YtopijobdblfhoaaGreat.Sa
open Go.Proofs.YtopijobdblfhoaaGreat.Sm
open Go.RowKit Go.Proofs.YtopijobdblfhoaaGreatW.PrintWords Go.Proofs.YtopijobdblfhoaaGreatW.PrintLast

def Qqe (l : List Int) : Value := .agg (l.map (Value.int .u32)).toArray

theorem Qi0 {P : Program} {fn : Func} {a : Tmp} {t : TypeId} (hr : fn.results = #[.cell a t]) {tmps : Array Value} {W : World} {g : Nat} (ha : tmps.getD a undef = .pointer (some ⟨g, 0, none⟩)) {ty : TypeId} {cs : Array Value} {fr : Nat × Nat} {n : Nat} {e : TypeId} (hg : W.heap[g]? = some (.cells cs ty fr))
  (hu : P.underlying t = some (.array n e)) (hi : (P.info? t).map (·.size) = some cs.size) : (results fn tmps).run P W = .ok (.agg cs) W := by
 have h := run_loadVar_row (P := P) W g ty t cs fr _ hg hu rfl hi; rw [Array.getD_eq_getD_getElem?] at ha; unfold results; rw [hr]; simp [ha, asAddr, h]
theorem wpList_store_row {P : Program} (w w' : World) {ops : Array Oper} {rest : List Oper} {o : Oper} {a : Act} {Q : Exit → Act → World → Prop} (hg : o.guard = none) (p v : Operand) (t : TypeId) (hop : o.op = Op.store t p v) (pv vv : Value) (hp : a.eval p = pv) (hv : a.eval v = vv)
  (hr : (Instr.storeAt t pv vv).run P w = .ok () w') (h : wpList P ops Q rest (a.put o.dst undef) w') : wpList P ops Q (o :: rest) a w := by
 refine wpList_plain hg fun K' hK' => ?_
 unfold Oper.wp; simp [execOp, hop, hp, hv, hr, Result.andThen]; exact hK' _ _ h
end Go.Proofs.YtopijobdblfhoaaGreat.Sa
end
section
namespace Go.Proofs.YtopijobdblfhoaaGreat.Sa
open Go.Proofs.YtopijobdblfhoaaGreat.Sm
open Go.RowKit Go.Proofs.YtopijobdblfhoaaGreatW.PrintWords Go.Proofs.YtopijobdblfhoaaGreatW.PrintLast Go.Proofs.YtopijobdblfhoaaGreatW.PrintMore

def Qbk (l : List Int) : Array Value := (l.map (Value.int .u32)).toArray
theorem Qga (l : List Int) (i : Nat) (h : i < l.length) : (Qbk l)[i]? = some (.int .u32 (l.getD i 0)) := by
 unfold Qbk; simp [List.getElem?_eq_getElem h]
theorem Qml (w : World) (o : Obj) {n : Nat} (h : w.heap.size = n) : (w.alloc o).heap[n]? = some o := by
 subst h; exact Qa9 w o
theorem Qit (b : ByteArray) : (Qnl b).length = 64 := by unfold Qnl; rw [Qd8, Qd3]
theorem Qdv (l : List Int) : (Qbk l).all (·.oneCell') = true := by
 simp [Qbk, Value.oneCell']
theorem one8 (a b c d e f g h : Int) : (#[Value.int .u32 a, .int .u32 b, .int .u32 c, .int .u32 d, .int .u32 e, .int .u32 f, .int .u32 g, .int .u32 h].all (·.oneCell')) = true := by
 simp [Value.oneCell']
theorem Qgk (s : ByteArray) (n : Nat) (h : n < s.size) (z : Int) (hz : z = n) (w : World) : (Instr.index 9 (.string s) (.int .i64 z)).run Tryz.prog w = .ok (.int .u8 (byt s n)) w := by
 subst hz; rw [run_index_string w 9 s .i64 n Tryz.underlying9, dif_pos ⟨by omega, by omega⟩]
 have e : ((s[((n : Int)).toNat]'(by omega)).toNat : Int) = byt s n := by
  unfold byt; rw [List.getD_eq_getElem?_getD, List.getElem?_eq_getElem (by simpa using h)]; rfl
 rw [e]
theorem arr64 : Tryz.prog.arrayLen 137 = 64 := by kernel_rfl
theorem arr8 : Tryz.prog.arrayLen 120 = 8 := by kernel_rfl
theorem Qpn (g : Nat) (n : Nat) (h : n < 64) (z : Int) (hz : z = n) (w : World) : (Instr.indexAt 137 (.pointer (some ⟨g, 0, none⟩)) (.int .i64 z)).run Tryz.prog w = .ok (.pointer (some ⟨g, n, none⟩)) w := by
 subst hz; rw [run_indexAt_array w 137 ⟨g, 0, none⟩ .i64 n (by kernel_rfl), arr64, if_pos ⟨by omega, by omega⟩]; have hs : (sizeOf (Tryz.prog.elem 137)).run Tryz.prog w = .ok 1 w := by kernel_rfl
 rw [hs]; simp [Result.andThen, add_plain]
theorem run_at8 (g : Nat) (n : Nat) (h : n < 8) (z : Int) (hz : z = n) (w : World) : (Instr.indexAt 120 (.pointer (some ⟨g, 0, none⟩)) (.int .i64 z)).run Tryz.prog w = .ok (.pointer (some ⟨g, n, none⟩)) w := by
 subst hz; rw [run_indexAt_array w 120 ⟨g, 0, none⟩ .i64 n (by kernel_rfl), arr8, if_pos ⟨by omega, by omega⟩]; have hs : (sizeOf (Tryz.prog.elem 120)).run Tryz.prog w = .ok 1 w := by kernel_rfl
 rw [hs]; simp [Result.andThen, add_plain]

end Go.Proofs.YtopijobdblfhoaaGreat.Sa
end
section
namespace Go.Proofs.YtopijobdblfhoaaGreat.Sa
open Go.Proofs.YtopijobdblfhoaaGreat.Sm
open Go.RowKit Go.Proofs.YtopijobdblfhoaaGreatW.PrintWords Go.Proofs.YtopijobdblfhoaaGreatW.PrintLast Go.Proofs.YtopijobdblfhoaaGreatW.PrintMore

theorem Qg7 {P : Program} {o : Oper} {a : Act} {ty : TypeId} {x : Operand} {g : Nat} {t : TypeId} {cs : Array Value} {fr : Nat × Nat} {d : TypeDesc} (w : World) (ho : o.op = .load ty x) (hx : a.eval x = .pointer (some ⟨g, 0, none⟩)) (hg : w.heap[g]? = some (.cells cs t fr))
  (hu : P.underlying ty = some d) (hd : (match d with | .struct _ | .array _ _ => true | _ => false) = true) (hi : (P.info? ty).map (·.size) = some cs.size) : (execOp a.eval o).run P w = .ok (.value (.agg cs)) w := by
 unfold execOp; simp only [ho, hx, Instr.loadAt, Instr.sureAddr, Sem.run_bind, Sem.run_pure, Result.andThen_ok, run_loadVar_row w g t ty cs fr d hg hu hd hi]
theorem Qft {P : Program} {o : Oper} {a : Act} {ty : TypeId} {x y : Operand} {g : Nat} {cells old : Array Value} {t : TypeId} (w : World) (ho : o.op = .store ty x y) (hx : a.eval x = .pointer (some ⟨g, 0, none⟩)) (hy : a.eval y = .agg cells)
  (hg : w.heap[g]? = some (.cells old t (0, 0))) (hi : (P.info? ty).map (·.size) = some cells.size) (hold : old.size = cells.size) (h1 : cells.all (·.oneCell') = true) : (execOp a.eval o).run P w = .ok .skip (w.setRow g cells) := by
 unfold execOp; simp only [ho, hx, hy, Instr.storeAt, Instr.sureAddr, Sem.run_bind, Sem.run_pure, Result.andThen_ok, run_storeVar_row w g t ty old cells hg hi hold h1]
theorem Qhq {P : Program} {fn : Func} {a b : Tmp} {t : TypeId} (hr : fn.results = #[.cell a t, .tmp b]) {tmps : Array Value} {W : World} {g : Nat} (ha : tmps.getD a undef = .pointer (some ⟨g, 0, none⟩)) {ty : TypeId} {cs : Array Value} {fr : Nat × Nat} (hg : W.heap[g]? = some (.cells cs ty fr)) {n : Nat} {e : TypeId}
  (hu : P.underlying t = some (.array n e)) (hi : (P.info? t).map (·.size) = some cs.size) {v : Value} (hb : tmps.getD b undef = v) : (results fn tmps).run P W = .ok (.tuple #[.agg cs, v]) W := by
 have h := run_loadVar_row (P := P) W g ty t cs fr _ hg hu rfl hi; rw [Array.getD_eq_getD_getElem?] at ha hb; unfold results; rw [hr]; simp [ha, asAddr, h, hb]

end Go.Proofs.YtopijobdblfhoaaGreat.Sa
end
section
namespace Go.Proofs.YtopijobdblfhoaaGreat.Sa
open Go.Proofs.YtopijobdblfhoaaGreat.Sm
open Go.RowKit Go.Proofs.YtopijobdblfhoaaGreatW.PrintWords Go.Proofs.YtopijobdblfhoaaGreatW.PrintLast Go.Proofs.YtopijobdblfhoaaGreatW.PrintMore

theorem Qaj {w W : World} (h : Below w.heap.size w W) : Below w.heap.size w W.drew := Qcd h
theorem Qdq (l : List UInt8) : strOfNums (l.map fun b => ((b.toNat : Nat) : Int)) = ⟨l.toArray⟩ := by
 unfold strOfNums; have e : ((fun n : Int => UInt8.ofNat n.toNat) ∘ fun b : UInt8 => ((b.toNat : Nat) : Int)) = id := by funext b; simp
 rw [List.map_map, e, List.map_id]
end Go.Proofs.YtopijobdblfhoaaGreat.Sa
end
section
namespace Go.Proofs.YtopijobdblfhoaaGreat.Sa
open Go.Proofs.YtopijobdblfhoaaGreat.Sm
open Go.RowKit Go.Proofs.YtopijobdblfhoaaGreatW.PrintWords Go.Proofs.YtopijobdblfhoaaGreatW.PrintLast Go.Proofs.YtopijobdblfhoaaGreatW.PrintMore

def stN (p : ByteArray) : Nat → St
 | 0 => Qjs
 | j + 1 => Qpa (stN p j) (p.extract (64 * j) (64 * j + 64))
theorem Qpp : Qjs.U := by
 intro x hx; simp only [Qjs, St.list, List.mem_cons, List.not_mem_nil, or_false] at hx
 rcases hx with rfl | rfl | rfl | rfl | rfl | rfl | rfl | rfl <;> exact ⟨by decide, by decide⟩
theorem stN_U (p : ByteArray) (j : Nat) : (stN p j).U := by
 cases j with
 | zero => exact Qpp
 | succ j => exact mixS_U _ _
theorem Qhp (p : ByteArray) : ∀ n j, Qnw n p (64 * j) (stN p j) = stN p (j + n)
 | 0, j => rfl
 | n + 1, j => by
  rw [Qnw, show 64 * j + 64 = 64 * (j + 1) by omega]; have e : Qpa (stN p j) (p.extract (64 * j) (64 * (j + 1))) = stN p (j + 1) := rfl; rw [e, Qhp p n (j + 1)]; congr 1; omega
theorem Qok (s : ByteArray) : sumS s = stN (Qlk s) ((Qlk s).size / 64) := by
 unfold sumS; have := Qhp (Qlk s) ((Qlk s).size / 64) 0
 simpa [stN] using this
theorem Qhv (s : ByteArray) : (Qlk s).size = s.size + 1 + (119 - s.size % 64) % 64 + 8 := by
 show (padL s).toArray.size = _; have := Qda s; simp only [padL, List.size_toArray, List.length_append, List.length_cons, List.length_replicate, Qep, List.length_map, List.length_range]; omega
theorem padB_64 (s : ByteArray) : (Qlk s).size = 64 * ((Qlk s).size / 64) := by
 have := Qhv s; omega
def b4 (x : Int) : List Int := [x / 16777216 % 256, x / 65536 % 256, x / 256 % 256, x % 256]
def outL (h : St) (k : Nat) : List Int := (h.list.take k).flatMap b4 ++ List.replicate (32 - 4 * k) 0
theorem b4_len (l : List Int) : (l.flatMap b4).length = 4 * l.length := by
 induction l with
 | nil => rfl
 | cons x l ih => simp only [List.flatMap_cons, List.length_append, ih, List.length_cons]; simp [b4]; omega
theorem Qln (h : St) (hU : h.U) : outL h 8 = (h.list.flatMap Qht).map fun b => ((b.toNat : Nat) : Int) := by
 have e : outL h 8 = h.list.flatMap b4 := by
  unfold outL; rw [List.take_of_length_le (by show 8 ≤ 8; omega)]; simp
 rw [e]; unfold St.U at hU; generalize h.list = l at hU ⊢
 induction l with
 | nil => rfl
 | cons x l ih =>
  rw [List.flatMap_cons, List.flatMap_cons, List.map_append, ih (fun y hy => hU y (List.mem_cons_of_mem _ hy))]; congr 1; have hx := hU x (by simp); unfold Sm.U at hx; simp only [b4, Qht, List.map_cons, List.map_nil, UInt8.toNat_ofNat']; congr 1
  ·
   omega
  congr 1
  ·
   omega
  congr 1
  ·
   omega
  congr 1
  ·
   omega
end Go.Proofs.YtopijobdblfhoaaGreat.Sa
end
