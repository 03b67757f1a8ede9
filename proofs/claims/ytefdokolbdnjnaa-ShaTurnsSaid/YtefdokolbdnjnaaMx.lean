import Derived.Test.YtefdokolbdnjnaaSa
import Derived.Outline
import Derived.Laws.CopyOwn
import Derived.Test.YtefdokolbdnjnaaWMore
import Derived.StillTailTactics
import Derived.Deep.CutRange
import Derived.Deep.QuietTactic
import Derived.BigQuiet
import Derived.LoopTactic
/-
  sha.mixed walked: a state behind a block. By an AI agent.
-/
namespace Go.Proofs.Ytefdokolbdnjnaa.Sa
open Go.Proofs.Ytefdokolbdnjnaa.Sm
open Go.RowKit Go.Proofs.YtefdokolbdnjnaaW.PrintWords Go.Proofs.YtefdokolbdnjnaaW.PrintLast Go.Proofs.YtefdokolbdnjnaaW.PrintMore
set_option linter.unusedVariables false
set_option linter.unusedSimpArgs false

def cellsU (l : List Int) : Array Value := (l.map (Value.int .u32)).toArray
/-- What stands in memory while mixed goes: its state, the words, the result, the schedule. -/
structure MxW (w : World) (h : St) (L : List Int) (w' : World) : Prop where
  b0 : w'.heap[w.heap.size]? = some (.cells (cellsU h.list) 26 (0, 0))
  b1 : w'.heap[w.heap.size + 1]? = some (.cells (cellsU wordsL) 24 (0, 0))
  b2 : w'.heap[w.heap.size + 2]? = some (.cells (cellsU [0, 0, 0, 0, 0, 0, 0, 0]) 26 (0, 0))
  b3 : w'.heap[w.heap.size + 3]? = some (.cells (cellsU L) 24 (0, 0))
  bel : Below w.heap.size w w'
theorem MxW.drew {w w' : World} {h : St} {L : List Int} (H : MxW w h L w') : MxW w h L w'.drew := ⟨H.b0, H.b1, H.b2, H.b3, below_drew H.bel⟩
theorem MxW.alloc {w w' : World} {h : St} {L : List Int} (H : MxW w h L w') (o : Obj) : MxW w h L (w'.alloc o) := ⟨blk_alloc H.b0 _, blk_alloc H.b1 _, blk_alloc H.b2 _, blk_alloc H.b3 _, below_alloc H.bel _⟩
theorem MxW.setRow {w w' : World} {h : St} {L : List Int} (H : MxW w h L w') {g : Nat} (hg : w.heap.size + 3 < g) (cs : Array Value) : MxW w h L (w'.setRow g cs) :=
  ⟨(setRow_other _ _ _ _ (by omega)).trans H.b0, (setRow_other _ _ _ _ (by omega)).trans H.b1, (setRow_other _ _ _ _ (by omega)).trans H.b2, (setRow_other _ _ _ _ (by omega)).trans H.b3, below_setRow H.bel (by omega) _⟩
theorem MxW.set {w w' : World} {h : St} {L L' : List Int} (H : MxW w h L w') (i : Nat) (x : Int) (e : (cellsU L).setIfInBounds i (.int .u32 x) = cellsU L') : MxW w h L' (w'.setCell ⟨w.heap.size + 3, i, none⟩ (.int .u32 x)) :=
  ⟨blk_far H.b0 (by simp) _, blk_far H.b1 (by simp) _, blk_far H.b2 (by simp) _, by rw [← e]; exact blk_set H.b3 i _, below_set H.bel (by omega)⟩
def pad64 (l : List Int) : List Int := l ++ List.replicate (64 - l.length) 0

theorem pad64_set (l : List Int) (x : Int) (h : l.length < 64) : (cellsU (pad64 l)).setIfInBounds l.length (.int .u32 x) = cellsU (pad64 (l ++ [x])) := by
  unfold pad64 cellsU
  have e : 64 - l.length = (64 - (l.length + 1)) + 1 := by omega
  rw [e, List.replicate_succ]
  simp [List.length_append]
theorem cellsU_get (l : List Int) (i : Nat) (h : i < l.length) : (cellsU l)[i]? = some (.int .u32 (l.getD i 0)) := by
  unfold cellsU
  simp [List.getElem?_eq_getElem h]
theorem pad64_get (l : List Int) (i : Nat) (h : i < l.length) : (pad64 l).getD i 0 = l.getD i 0 := by
  unfold pad64
  simp [List.getElem?_append_left h]
theorem pad64_length (l : List Int) (h : l.length ≤ 64) : (pad64 l).length = 64 := by unfold pad64; simp; omega
theorem pad64_full (l : List Int) (h : l.length = 64) : pad64 l = l := by unfold pad64; simp [h]

theorem be_walk (b : ByteArray) (k : Nat) : bits BinOp.or IntKind.u32 (bits BinOp.or IntKind.u32 (bits BinOp.or IntKind.u32 (byt b (4 * k) % 4294967296 * 16777216 % 4294967296) (byt b (4 * k + 1) % 4294967296 * 65536 % 4294967296)) (byt b (4 * k + 2) % 4294967296 * 256 % 4294967296)) (byt b (4 * k + 3) % 4294967296) = be b k := by
  have h0 := byt_range b (4 * k); have h1 := byt_range b (4 * k + 1); have h2 := byt_range b (4 * k + 2); have h3 := byt_range b (4 * k + 3)
  have e := word_join h0 h1 h2 h3
  simp only [IntKind.wrap_u32] at e
  have m : ∀ x : Int, 0 ≤ x ∧ x ≤ 255 → x % 4294967296 = x := fun x hx => by omega
  rw [m _ h0, m _ h1, m _ h2, m _ h3, e]
  rfl
theorem turnZ (x z : Int) (h1 : 1 ≤ z) (h2 : z ≤ 31) (w : World) : Calls Try.prog 91 #[.int .u32 x, .int .i64 z] w fun e w' => e = .returned (.int .u32 (rotI x z.toNat)) ∧ w' = w := by
  have e : z = ((z.toNat : Nat) : Int) := by omega
  have c := turn_c x z.toNat (by omega) (by omega) w
  rw [← e] at c
  exact c
theorem new_ (w : World) (o : Obj) {n : Nat} (h : w.heap.size = n) : (w.alloc o).heap[n]? = some o := by
  subst h; exact blk_new w o
theorem next_walk (l : List Int) (m : Nat) : (l[m - 16]?.getD 0 + bits BinOp.xor IntKind.u32 (bits BinOp.xor IntKind.u32 (rotI (l[m - 15]?.getD 0) 7) (rotI (l[m - 15]?.getD 0) 18)) (l[m - 15]?.getD 0 / 8) + l[m - 7]?.getD 0 + bits BinOp.xor IntKind.u32 (bits BinOp.xor IntKind.u32 (rotI (l[m - 2]?.getD 0) 17) (rotI (l[m - 2]?.getD 0) 19)) (l[m - 2]?.getD 0 / 1024)) % 4294967296 = nextW l m := by
  unfold nextW s0 s1
  simp only [IntKind.wrap_u32, List.getD_eq_getElem?_getD]
  omega
theorem turnZ' (x z : Int) (h1 : 1 ≤ z) (h2 : z ≤ 31) (w : World) : Calls Try.prog 91 #[.int .u32 x, .int .i64 z] w fun e w' => e = .returned (.int .u32 (rotI x z.toNat)) ∧ w = w' :=
  (turnZ x z h1 h2 w).mono fun _ _ h => ⟨h.1, h.2.symm⟩
theorem wsOf_length (b : ByteArray) : (wsOf b).length = 64 := by unfold wsOf; rw [sched_length, w16_length]
theorem cellsU_one (l : List Int) : (cellsU l).all (·.oneCell') = true := by
  simp [cellsU, Value.oneCell']
theorem one8 (a b c d e f g h : Int) : (#[Value.int .u32 a, .int .u32 b, .int .u32 c, .int .u32 d, .int .u32 e, .int .u32 f, .int .u32 g, .int .u32 h].all (·.oneCell')) = true := by
  simp [Value.oneCell']
theorem rnd_walk (st : St) (k w : Int) (u : st.U) : (some (Obj.cells #[Value.int IntKind.u32
    ((st.h + bits BinOp.xor IntKind.u32 (bits BinOp.xor IntKind.u32 (rotI st.e 6) (rotI st.e 11)) (rotI st.e 25) +
          bits BinOp.xor IntKind.u32 (bits BinOp.and IntKind.u32 st.e st.f) (bits BinOp.and IntKind.u32 (bits BinOp.xor IntKind.u32 4294967295 st.e) st.g) + k + w +
        (bits BinOp.xor IntKind.u32 (bits BinOp.xor IntKind.u32 (rotI st.a 2) (rotI st.a 13)) (rotI st.a 22) +
          bits BinOp.xor IntKind.u32 (bits BinOp.xor IntKind.u32 (bits BinOp.and IntKind.u32 st.a st.b) (bits BinOp.and IntKind.u32 st.a st.c)) (bits BinOp.and IntKind.u32 st.b st.c))) % 4294967296),
    Value.int IntKind.u32 st.a, Value.int IntKind.u32 st.b, Value.int IntKind.u32 st.c,
    Value.int IntKind.u32
      ((st.d + (st.h + bits BinOp.xor IntKind.u32 (bits BinOp.xor IntKind.u32 (rotI st.e 6) (rotI st.e 11)) (rotI st.e 25) +
              bits BinOp.xor IntKind.u32 (bits BinOp.and IntKind.u32 st.e st.f) (bits BinOp.and IntKind.u32 (bits BinOp.xor IntKind.u32 4294967295 st.e) st.g) + k + w)) % 4294967296),
    Value.int IntKind.u32 st.e, Value.int IntKind.u32 st.f, Value.int IntKind.u32 st.g] 26 (0, 0))) = some (Obj.cells (cellsU (rnd st k w).list) 26 (0, 0)) := by
  rw [not_max (u st.e (by simp [St.list]))]
  unfold cellsU rnd St.list tI uI S0 S1 chI majI
  simp only [IntKind.wrap_u32, List.map_cons, List.map_nil]
  have k1 : ∀ a b c d e f g : Int, (a + b + c + d + e + (f + g)) % 4294967296 = (((((a + b) % 4294967296 + c) % 4294967296 + d) % 4294967296 + e) % 4294967296 + (f + g) % 4294967296) % 4294967296 := by intros; omega
  have k2 : ∀ x a b c d e : Int, (x + (a + b + c + d + e)) % 4294967296 = (x + ((((a + b) % 4294967296 + c) % 4294967296 + d) % 4294967296 + e) % 4294967296) % 4294967296 := by intros; omega
  rw [k1, k2]
def mixK (S h : St) (k : Nat) : List Int := (List.range 8).map fun i => if i < k then IntKind.u32.wrap (S.list.getD i 0 + h.list.getD i 0) else S.list.getD i 0
theorem mixK_length (S h : St) (k : Nat) : (mixK S h k).length = 8 := by simp [mixK]
theorem mixK_full (S h : St) : mixK S h 8 = (addSt S h).list := rfl
theorem mixK_at (S h : St) (k : Nat) (hk : k < 8) : (mixK S h k).getD k 0 = S.list.getD k 0 := by
  unfold mixK
  rw [List.getD_eq_getElem?_getD, List.getElem?_map, List.getElem?_range hk]
  simp
theorem mixK_set (S h : St) (k : Nat) (hk : k < 8) : (cellsU (mixK S h k)).setIfInBounds k (.int .u32 (IntKind.u32.wrap ((mixK S h k).getD k 0 + h.list.getD k 0))) = cellsU (mixK S h (k + 1)) := by
  rw [mixK_at S h k hk]
  unfold cellsU
  apply Array.ext'
  simp only [List.setIfInBounds_toArray]
  apply List.ext_getElem?
  intro i
  rw [List.getElem?_set]
  unfold mixK
  by_cases hi : i < 8
  · by_cases e : k = i
    · subst e
      rw [if_pos rfl, if_pos (by simpa using hi)]
      simp [List.getElem?_range hi]
    · rw [if_neg e]
      simp only [List.getElem?_map, List.getElem?_range hi, Option.map_some]
      by_cases h1 : i < k
      · rw [if_pos h1, if_pos (by omega)]
      · rw [if_neg h1, if_neg (by omega)]
  · rw [if_neg (by omega)]
    simp [hi]
theorem MxW.far {w w' : World} {h : St} {L : List Int} (H : MxW w h L w') {g : Nat} (hg : w.heap.size + 3 < g) (i : Nat) (v : Value) : MxW w h L (w'.setCell ⟨g, i, none⟩ v) :=
  ⟨blk_far H.b0 (by simp; omega) _, blk_far H.b1 (by simp; omega) _, blk_far H.b2 (by simp; omega) _, blk_far H.b3 (by simp; omega) _, below_set H.bel (by omega)⟩
theorem run_byt (s : ByteArray) (n : Nat) (h : n < s.size) (z : Int) (hz : z = n) (w : World) : (Instr.index 9 (.string s) (.int .i64 z)).run Try.prog w = .ok (.int .u8 (byt s n)) w := by
  subst hz
  rw [run_index_string w 9 s .i64 n Try.underlying9, dif_pos ⟨by omega, by omega⟩]
  have e : ((s[((n : Int)).toNat]'(by omega)).toNat : Int) = byt s n := by
    unfold byt
    rw [List.getD_eq_getElem?_getD, List.getElem?_eq_getElem (by simpa using h)]
    rfl
  rw [e]
theorem arr64 : Try.prog.arrayLen 24 = 64 := by kernel_rfl
theorem arr8 : Try.prog.arrayLen 26 = 8 := by kernel_rfl
theorem run_at64 (g : Nat) (n : Nat) (h : n < 64) (z : Int) (hz : z = n) (w : World) : (Instr.indexAt 24 (.pointer (some ⟨g, 0, none⟩)) (.int .i64 z)).run Try.prog w = .ok (.pointer (some ⟨g, n, none⟩)) w := by
  subst hz
  rw [run_indexAt_array w 24 ⟨g, 0, none⟩ .i64 n (by kernel_rfl), arr64, if_pos ⟨by omega, by omega⟩]
  have hs : (sizeOf (Try.prog.elem 24)).run Try.prog w = .ok 1 w := by kernel_rfl
  rw [hs]
  simp [Result.andThen, add_plain]
theorem run_at8 (g : Nat) (n : Nat) (h : n < 8) (z : Int) (hz : z = n) (w : World) : (Instr.indexAt 26 (.pointer (some ⟨g, 0, none⟩)) (.int .i64 z)).run Try.prog w = .ok (.pointer (some ⟨g, n, none⟩)) w := by
  subst hz
  rw [run_indexAt_array w 26 ⟨g, 0, none⟩ .i64 n (by kernel_rfl), arr8, if_pos ⟨by omega, by omega⟩]
  have hs : (sizeOf (Try.prog.elem 26)).run Try.prog w = .ok 1 w := by kernel_rfl
  rw [hs]
  simp [Result.andThen, add_plain]

set_option maxHeartbeats 8000000 in
set_option maxRecDepth 100000 in
theorem mixed_c (h : St) (hU : h.U) (b : ByteArray) (hb : b.size = 64) (w : World) :
    Calls Try.prog 69 #[u32s h.list, .string b, u32s wordsL] w fun e w' => e = .returned (u32s (mixS h b).list) ∧ Below w.heap.size w w' := by
  have HU := Lib.hid hU
  have HB := Lib.hid hb
  clear hU hb
  show Calls _ _ #[.agg (cellsU h.list), .string b, .agg (cellsU wordsL)] _ _
  obtain ⟨hv, ehv⟩ : ∃ v, v = cellsU h.list := ⟨_, rfl⟩
  obtain ⟨kv, ekv⟩ : ∃ v, v = cellsU wordsL := ⟨_, rfl⟩
  rw [← ehv, ← ekv]
  have EH := Lib.hid ehv
  have EK := Lib.hid ekv
  clear ehv ekv
  go_enter Try.func69, Try.ntmps69
  go_wp2_with fail
  go_loopw [23] (fun s wr => ∃ k : Nat, k ≤ 16 ∧ s = .int .i64 k ∧ MxW w h (pad64 (w16 b k)) wr) (fun s _ => 16 - (intOf s).toNat)
  case atStart =>
    refine ⟨0, by omega, rfl, ?_⟩
    have e1 := EH.out
    have e2 := EK.out
    subst e1 e2
    exact ⟨blk_alloc (blk_alloc (blk_alloc (new_ _ _ rfl) _) _) _, blk_alloc (blk_alloc (new_ _ _ (by simp)) _) _, blk_alloc (new_ _ _ (by simp)) _, new_ _ _ (by simp), ((((Below.refl _ _).alloc (Nat.le_refl _) _).alloc (by simp) _).alloc (by simp; omega) _).alloc (by simp; omega) _⟩
  case round =>
    obtain ⟨k, hk, rfl, hw⟩ := hrel
    by_cases hlt : k < 16
    · -- BEGIN A
      have hs := HB.out
      have g0 : 4 * k < b.size := by omega
      have g1 : 4 * k + 1 < b.size := by omega
      have g2 : 4 * k + 2 < b.size := by omega
      have g3 : 4 * k + 3 < b.size := by omega
      clear hs
      have q0 : IntKind.i64.wrap (4 * (k : Int)) = 4 * (k : Int) := (i64_w _).trans (Go.IntWalk.wrap64_in _ (by omega))
      have q1 : IntKind.i64.wrap (4 * (k : Int) + 1) = 4 * (k : Int) + 1 := (i64_w _).trans (Go.IntWalk.wrap64_in _ (by omega))
      have q2 : IntKind.i64.wrap (4 * (k : Int) + 2) = 4 * (k : Int) + 2 := (i64_w _).trans (Go.IntWalk.wrap64_in _ (by omega))
      have q3 : IntKind.i64.wrap (4 * (k : Int) + 3) = 4 * (k : Int) + 3 := (i64_w _).trans (Go.IntWalk.wrap64_in _ (by omega))
      have r0 := fun w => run_byt b (4 * k) g0 (4 * (k : Int)) (by omega) w
      have r1 := fun w => run_byt b (4 * k + 1) g1 (4 * (k : Int) + 1) (by omega) w
      have r2 := fun w => run_byt b (4 * k + 2) g2 (4 * (k : Int) + 2) (by omega) w
      have r3 := fun w => run_byt b (4 * k + 3) g3 (4 * (k : Int) + 3) (by omega) w
      have r4 := fun w' => run_at64 (w.heap.size + 1 + 1 + 1) k (by omega) k rfl w'
      clear g0 g1 g2 g3
      go_wp2_with fail
      go_still_tail 31, (by kernel_rfl)
      change wpList _ _ _ _ _ wr.drew
      have hw2 := hw.drew
      generalize wr.drew = w2 at hw2 ⊢
      have c3 : w2.cell? ⟨w.heap.size + 1 + 1 + 1, k, none⟩ = some (.int .u32 ((pad64 (w16 b k)).getD k 0)) := (blk_cell hw2.b3 k).trans (cellsU_get _ _ (by rw [pad64_length _ (by rw [w16_length]; omega)]; omega))
      have f3 : w2.frozen? ⟨w.heap.size + 1 + 1 + 1, k, none⟩ = false := blk_frozen hw2.b3 k
      have HW := Lib.hid hw2
      clear hw hw2 q0 q1 q2 q3 r0 r1 r2 r3 r4
      go_wp2_with fail
      go_roundw
      case rel =>
        refine ⟨k + 1, by omega, by go_num, HW.out.set k _ ?_⟩
        have e := pad64_set (w16 b k) (be b k) (by rw [w16_length]; omega)
        rw [w16_length, ← w16_succ] at e
        rw [be_walk]
        exact e
      case measure => simp [intOf]; omega
      -- END A
    · obtain rfl : k = 16 := by omega
      clear hlt hk
      go_wp2_with fail
      go_loopw [9] (fun s wr => ∃ m : Nat, 16 ≤ m ∧ m ≤ 64 ∧ s = .int .i64 m ∧ MxW w h (pad64 (sched (w16 b 16) (m - 16))) wr) (fun s _ => 64 - (intOf s).toNat)
      case atStart => exact ⟨16, by omega, by omega, rfl, hw⟩
      case round =>
        obtain ⟨m, hm1, hm2, rfl, hw⟩ := hrel
        have hlen : (sched (w16 b 16) (m - 16)).length = m := by rw [sched_length, w16_length]; omega
        by_cases hlt : m < 64
        · -- BEGIN B
          have q15 : IntKind.i64.wrap ((m : Int) - 15) = (m : Int) - 15 := (i64_w _).trans (Go.IntWalk.wrap64_in _ (by omega))
          have q2 : IntKind.i64.wrap ((m : Int) - 2) = (m : Int) - 2 := (i64_w _).trans (Go.IntWalk.wrap64_in _ (by omega))
          have q16 : IntKind.i64.wrap ((m : Int) - 16) = (m : Int) - 16 := (i64_w _).trans (Go.IntWalk.wrap64_in _ (by omega))
          have q7 : IntKind.i64.wrap ((m : Int) - 7) = (m : Int) - 7 := (i64_w _).trans (Go.IntWalk.wrap64_in _ (by omega))
          have r15 := fun w' => run_at64 (w.heap.size + 1 + 1 + 1) (m - 15) (by omega) ((m : Int) - 15) (by omega) w'
          have r2 := fun w' => run_at64 (w.heap.size + 1 + 1 + 1) (m - 2) (by omega) ((m : Int) - 2) (by omega) w'
          have r16 := fun w' => run_at64 (w.heap.size + 1 + 1 + 1) (m - 16) (by omega) ((m : Int) - 16) (by omega) w'
          have r7 := fun w' => run_at64 (w.heap.size + 1 + 1 + 1) (m - 7) (by omega) ((m : Int) - 7) (by omega) w'
          have r0 := fun w' => run_at64 (w.heap.size + 1 + 1 + 1) m (by omega) (m : Int) rfl w'
          have cc : ∀ w', MxW w h (pad64 (sched (w16 b 16) (m - 16))) w' → ∀ j, j < m → w'.cell? ⟨w.heap.size + 1 + 1 + 1, j, none⟩ = some (.int .u32 ((sched (w16 b 16) (m - 16)).getD j 0)) := fun w' H j hj => by
            rw [← pad64_get _ _ (by omega)]
            exact (blk_cell H.b3 j).trans (cellsU_get _ _ (by rw [pad64_length _ (by omega)]; omega))
          have c15 := cc wr.drew hw.drew (m - 15) (by omega)
          have c2 := cc wr.drew hw.drew (m - 2) (by omega)
          have HL := Lib.hid hlen
          have CC := Lib.hid cc
          clear hlen cc
          go_wp2_with fail
          go_still (by kernel_rfl)
          change Exit.then _ _ _ _ wr.drew
          clear c15 c2 q15 q2 r15 r2
          have hw2 := hw.drew
          generalize wr.drew = w2 at hw2 ⊢
          go_wp2_with fail
          have hw3 := hw2.drew
          have c16 := CC.out w2.drew hw3 (m - 16) (by omega)
          have c7 := CC.out w2.drew hw3 (m - 7) (by omega)
          refine wp_region_still_tail 29 (by kernel_rfl) (by kernel_rfl) ?_
          simp only [List.take_succ_cons, List.take_zero, List.drop_succ_cons, List.drop_zero]
          repeat (first | still_step | still_call (turnZ _ _ (by decide) (by decide) _))
          refine wpStill_nil ?_
          change wpList _ _ _ _ _ w2.drew
          generalize w2.drew = w3 at hw3 ⊢
          clear c16 c7
          have c3 : w3.cell? ⟨w.heap.size + 1 + 1 + 1, m, none⟩ = some (.int .u32 ((pad64 (sched (w16 b 16) (m - 16))).getD m 0)) := (blk_cell hw3.b3 m).trans (cellsU_get _ _ (by have := HL.out; rw [pad64_length _ (by omega)]; omega))
          have f3 : w3.frozen? ⟨w.heap.size + 1 + 1 + 1, m, none⟩ = false := blk_frozen hw3.b3 m
          have HW := Lib.hid hw3
          clear hw hw2 hw3 q16 q7 r16 r7 r0
          go_wp2_with fail
          go_roundw
          case rel =>
            (repeat apply Exists.intro)
            refine ⟨⟨m + 1, by omega, by omega, by go_num, HW.out.set m _ ?_⟩, rfl⟩
            have e := pad64_set (sched (w16 b 16) (m - 16)) (nextW (sched (w16 b 16) (m - 16)) m) (by have := HL.out; omega)
            rw [HL.out] at e
            have e2 : sched (w16 b 16) (m + 1 - 16) = sched (w16 b 16) (m - 16) ++ [nextW (sched (w16 b 16) (m - 16)) m] := by
              rw [show m + 1 - 16 = (m - 16) + 1 by omega, sched, show 16 + (m - 16) = m by omega]
            rw [e2, ← e]
            congr 1
            exact congrArg _ (next_walk _ _)
          case measure => simp [intOf]; omega
          -- END B
        · obtain rfl : m = 64 := by omega
          replace hw : MxW w h (wsOf b) wr := by
            have := hw
            rw [pad64_full _ hlen] at this
            exact this
          clear hlen hm1 hm2 hlt
          obtain ⟨w1, rfl⟩ : ∃ w1 : World, w1 = wr := ⟨_, rfl⟩
          have hst := run_storeCells_new (P := Try.prog) w1 26 #[.int .u32 0, .int .u32 0, .int .u32 0, .int .u32 0, .int .u32 0, .int .u32 0, .int .u32 0, .int .u32 0] (cellsU h.list) (by kernel_rfl) rfl (cellsU_one _)
          have gt : w.heap.size + 3 < w1.heap.size := blk_lt hw.b3
          go_wp2_with (refine wpList_load_row rfl 26 _ rfl w.heap.size rfl 26 _ (0, 0) _ hw.b0 Try.underlying26 rfl (by kernel_rfl) ?_)
          clear hst
          go_loopw [100] (fun s wr => ∃ k : Nat, k ≤ 64 ∧ s = .int .i64 k ∧ MxW w h (wsOf b) wr ∧ wr.heap[w1.heap.size]? = some (.cells (cellsU (rnds h wordsL (wsOf b) k).list) 26 (0, 0))) (fun s _ => 64 - (intOf s).toNat)
          case atStart => exact ⟨0, by omega, rfl, hw.alloc _, blk_new _ _⟩
          case round =>
            clear hw
            obtain ⟨k, hk, rfl, hw, hs⟩ := hrel
            by_cases hlt : k < 64
            · -- BEGIN C
              obtain ⟨st, est⟩ : ∃ st, st = rnds h wordsL (wsOf b) k := ⟨_, rfl⟩
              rw [← est] at hs
              have EST := Lib.hid est
              clear est
              have cc : ∀ w' : World, w'.heap[w1.heap.size]? = some (.cells (cellsU st.list) 26 (0, 0)) → w'.cell? ⟨w1.heap.size, 0, none⟩ = some (.int .u32 st.a) ∧ w'.cell? ⟨w1.heap.size, 1, none⟩ = some (.int .u32 st.b) ∧ w'.cell? ⟨w1.heap.size, 2, none⟩ = some (.int .u32 st.c) ∧ w'.cell? ⟨w1.heap.size, 3, none⟩ = some (.int .u32 st.d) ∧ w'.cell? ⟨w1.heap.size, 4, none⟩ = some (.int .u32 st.e) ∧ w'.cell? ⟨w1.heap.size, 5, none⟩ = some (.int .u32 st.f) ∧ w'.cell? ⟨w1.heap.size, 6, none⟩ = some (.int .u32 st.g) ∧ w'.cell? ⟨w1.heap.size, 7, none⟩ = some (.int .u32 st.h) := fun w' H => ⟨blk_cell H 0, blk_cell H 1, blk_cell H 2, blk_cell H 3, blk_cell H 4, blk_cell H 5, blk_cell H 6, blk_cell H 7⟩
              have CC := Lib.hid cc
              obtain ⟨x0, x1, x2, x3, x4, x5, x6, x7⟩ := cc wr.drew hs
              clear cc
              go_wp2_with fail
              go_still (by kernel_rfl)
              change Exit.then _ _ _ _ wr.drew
              clear x0 x1 x2 x3 x4 x5 x6 x7
              have hw2 := hw.drew
              have hs2 : wr.drew.heap[w1.heap.size]? = some (.cells (cellsU st.list) 26 (0, 0)) := hs
              generalize wr.drew = w2 at hw2 hs2 ⊢
              obtain ⟨x0, x1, x2, x3, x4, x5, x6, x7⟩ := CC.out w2.drew hs2
              have y1 : w2.drew.cell? ⟨w.heap.size + 1, k, none⟩ = some (.int .u32 (wordsL.getD k 0)) := (blk_cell hw2.drew.b1 k).trans (cellsU_get _ _ hlt)
              have y2 : w2.drew.cell? ⟨w.heap.size + 1 + 1 + 1, k, none⟩ = some (.int .u32 ((wsOf b).getD k 0)) := (blk_cell hw2.drew.b3 k).trans (cellsU_get _ _ (by rw [wsOf_length]; exact hlt))
              have r1 := fun w' => run_at64 (w.heap.size + 1) k hlt (k : Int) rfl w'
              have r2 := fun w' => run_at64 (w.heap.size + 1 + 1 + 1) k hlt (k : Int) rfl w'
              have hsg : IntKind.u32.signed = false := rfl
              have hmx : IntKind.u32.max = 4294967295 := rfl
              go_wp2_with fail
              refine wp_region_still_lit (by kernel_rfl) (by kernel_rfl) ?_
              repeat (first | still_step | still_call (turnZ _ _ (by decide) (by decide) _))
              refine wpStill_nil ?_
              change Exit.then _ _ _ _ w2.drew
              clear x0 x1 x2 x3 x4 x5 x6 x7 y1 y2 r1 r2
              have hw3 := hw2.drew
              have hs3 : w2.drew.heap[w1.heap.size]? = some (.cells (cellsU st.list) 26 (0, 0)) := hs2
              generalize w2.drew = w3 at hw3 hs3 ⊢
              obtain ⟨x0, x1, x2, x3, x4, x5, x6, x7⟩ := CC.out w3 hs3
              clear x0 x1 x2 x4 x5 x6 x7
              go_wp2_with (first | (go_at_call 91; refine (turnZ' _ _ (by decide) (by decide) _).mono ?_; rintro e w4 ⟨rfl, rfl⟩) | (refine Go.wpList_store_row rfl 26 (.tmp 12) (.tmp 176) rfl w1.heap.size _ rfl rfl 26 _ hs3 (by kernel_rfl) rfl (one8 _ _ _ _ _ _ _ _) ?_))
              go_roundw
              case rel =>
                refine ⟨k + 1, by omega, by go_num, hw3.setRow gt _, ?_⟩
                refine (setRow_heap _ _ _ _ _ _ hs3).trans ?_
                have e := EST.out
                have u : st.U := by rw [e]; exact rnds_U HU.out _ _ _
                rw [rnd_walk st _ _ u, rnds, ← e]
                simp only [List.getD_eq_getElem?_getD]
              case measure => simp [intOf]; omega
              -- END C
            · -- BEGIN D
              obtain rfl : k = 64 := by omega
              clear hlt hk
              obtain ⟨S, eS⟩ : ∃ S, S = rnds h wordsL (wsOf b) 64 := ⟨_, rfl⟩
              rw [← eS] at hs
              have ES := Lib.hid eS
              clear eS
              obtain ⟨w2, rfl⟩ : ∃ w2 : World, w2 = wr := ⟨_, rfl⟩
              go_wp2_with fail
              go_loopw [178] (fun s wr => ∃ k : Nat, k ≤ 8 ∧ s = .int .i64 k ∧ MxW w h (wsOf b) wr ∧ wr.heap[w1.heap.size]? = some (.cells (cellsU (mixK S h k)) 26 (0, 0))) (fun s _ => 8 - (intOf s).toNat)
              case atStart => exact ⟨0, by omega, rfl, hw, hs⟩
              case round =>
                clear hw hs
                obtain ⟨k, hk, rfl, hw, hs⟩ := hrel
                by_cases hlt : k < 8
                · have lx : k < (mixK S h k).length := by rw [mixK_length]; exact hlt
                  have ly : k < h.list.length := hlt
                  have x1 : wr.drew.cell? ⟨w1.heap.size, k, none⟩ = some (.int .u32 ((mixK S h k).getD k 0)) := (blk_cell (w := wr.drew) hs k).trans (cellsU_get _ _ lx)
                  have x2 : wr.drew.cell? ⟨w.heap.size, k, none⟩ = some (.int .u32 (h.list.getD k 0)) := (blk_cell hw.drew.b0 k).trans (cellsU_get _ _ ly)
                  have r1 := fun w' => run_at8 w1.heap.size k hlt (k : Int) rfl w'
                  have r2 := fun w' => run_at8 w.heap.size k hlt (k : Int) rfl w'
                  clear lx ly
                  go_wp2_with fail
                  go_still_tail 8, (by kernel_rfl)
                  change wpList _ _ _ _ _ wr.drew
                  have hw3 := hw.drew
                  have hs3 : wr.drew.heap[w1.heap.size]? = some (.cells (cellsU (mixK S h k)) 26 (0, 0)) := hs
                  have f3 : wr.drew.frozen? ⟨w1.heap.size, k, none⟩ = false := blk_frozen hs3 k
                  clear x2 r1 r2
                  generalize wr.drew = w3 at hw3 hs3 x1 f3 ⊢
                  have HW := Lib.hid hw3
                  have HS := Lib.hid hs3
                  clear hw3 hs3 hw hs
                  go_wp2_with fail
                  go_roundw
                  case rel =>
                    (repeat apply Exists.intro)
                    refine ⟨⟨k + 1, by omega, by go_num, HW.out.far gt _ _, ?_⟩, rfl⟩
                    refine (blk_set HS.out k _).trans ?_
                    rw [← mixK_set S h k hlt]
                    simp only [IntKind.wrap_u32, List.getD_eq_getElem?_getD]
                  case measure => simp [intOf]; omega
                · obtain rfl : k = 8 := by omega
                  clear hlt hk
                  rw [mixK_full] at hs
                  go_wp2_with (first | (refine wpList_load_row rfl 26 _ rfl w1.heap.size rfl 26 _ (0, 0) _ hs Try.underlying26 rfl (by kernel_rfl) ?_) | (refine Go.wpList_store_row rfl 26 (.tmp 6) (.tmp 190) rfl (w.heap.size + 1 + 1) _ rfl rfl 26 _ hw.b2 (by kernel_rfl) rfl (cellsU_one _) ?_))
                  have e := ES.out
                  have hr : (wr.setRow (w.heap.size + 1 + 1) (cellsU (addSt S h).list)).heap[w.heap.size + 1 + 1]? = some (.cells (cellsU (mixS h b).list) 26 (0, 0)) := by
                    rw [setRow_heap _ _ _ _ _ _ hw.b2, e]
                    rfl
                  refine bodyPost_ret (v := u32s (mixS h b).list) (results_row Try.results69 rfl hr Try.underlying26 (by kernel_rfl)) rfl ⟨rfl, below_setRow hw.bel (by omega) _⟩
              -- END D
end Go.Proofs.Ytefdokolbdnjnaa.Sa
