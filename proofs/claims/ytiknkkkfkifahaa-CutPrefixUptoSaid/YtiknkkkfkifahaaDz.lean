import Derived.Test.YtiknkkkfkifahaaHz
import Derived.Lib.Strings
import Derived.ScopeJumps
import Derived.WalkMore
import Derived.Lib.Builder
import Derived.Lib.AppendStr
import Derived.Lib.UnsafeStr
import Derived.Lib.MakeNoZero
import Derived.Laws.Externs
import Derived.OwnWalk
import Derived.Test.YtiknkkkfkifahaaShelf
import Derived.Test.YtiknkkkfkifahaaRz
section
/-
  Plain laws of the digest: an example, sizes, what tells texts apart. No program. By an AI agent.
-/
namespace Go.Proofs.Ytiknkkkfkifahaa.Sm
open Go Go.RowKit

theorem bytes4_len (l : List Int) : (l.flatMap bytes4).length = 4 * l.length := by
  induction l with
  | nil => rfl
  | cons x l ih => simp only [List.flatMap_cons, List.length_append, ih, List.length_cons]; simp [bytes4]; omega
theorem sumB_size (s : ByteArray) : (sumB s).size = 32 := by
  show ((sumS s).list.flatMap bytes4).toArray.size = 32
  rw [List.size_toArray, bytes4_len]
  rfl
theorem hexL_len (l : List UInt8) : (hexL l).length = 2 * l.length := by
  induction l with
  | nil => rfl
  | cons x l ih => simp only [hexL, List.flatMap_cons, List.length_append, List.length_cons, List.length_nil] at ih ⊢; omega
theorem hexB_size (s : ByteArray) : (hexB s).size = 2 * s.size := by
  show (hexL s.data.toList).toArray.size = _
  rw [List.size_toArray, hexL_len, Array.length_toList]
  rfl
theorem abc_hex : (hexB (sumB ⟨#[97, 98, 99]⟩)).data.toList = [98, 97, 55, 56, 49, 54, 98, 102, 56, 102, 48, 49, 99, 102, 101, 97, 52, 49, 52, 49, 52, 48, 100, 101, 53, 100, 97, 101, 50, 50, 50, 51, 98, 48, 48, 51, 54, 49, 97, 51, 57, 54, 49, 55, 55, 97, 57, 99, 98, 52, 49, 48, 102, 102, 54, 49, 102, 50, 48, 48, 49, 53, 97, 100] := by decide +kernel
theorem lenBytes_length (n : Nat) : (lenBytes n).length = 8 := by simp [lenBytes]
theorem lenBytes_eq (n : Nat) : lenBytes n = [UInt8.ofNat (n * 8 / 72057594037927936), UInt8.ofNat (n * 8 / 281474976710656), UInt8.ofNat (n * 8 / 1099511627776), UInt8.ofNat (n * 8 / 4294967296), UInt8.ofNat (n * 8 / 16777216), UInt8.ofNat (n * 8 / 65536), UInt8.ofNat (n * 8 / 256), UInt8.ofNat (n * 8)] := by
  simp [lenBytes, List.range, List.range.loop]
theorem ofNat_mod {a b : Nat} (h : UInt8.ofNat a = UInt8.ofNat b) : a % 256 = b % 256 := by
  have := congrArg UInt8.toNat h
  simpa using this
theorem lenBytes_inj {n m : Nat} (hn : n ≤ 140737488355328) (hm : m ≤ 140737488355328) (h : lenBytes n = lenBytes m) : n = m := by
  rw [lenBytes_eq, lenBytes_eq] at h
  simp only [List.cons.injEq, and_true] at h
  obtain ⟨h7, h6, h5, h4, h3, h2, h1, h0⟩ := h
  have e6 := ofNat_mod h6
  have e5 := ofNat_mod h5
  have e4 := ofNat_mod h4
  have e3 := ofNat_mod h3
  have e2 := ofNat_mod h2
  have e1 := ofNat_mod h1
  have e0 := ofNat_mod h0
  clear h7 h6 h5 h4 h3 h2 h1 h0
  have d1 : n * 8 % 65536 = m * 8 % 65536 := by omega
  have d2 : n * 8 % 16777216 = m * 8 % 16777216 := by clear e0 e1; omega
  have d3 : n * 8 % 4294967296 = m * 8 % 4294967296 := by clear e0 e1 e2 d1; omega
  have d4 : n * 8 % 1099511627776 = m * 8 % 1099511627776 := by clear e0 e1 e2 e3 d1 d2; omega
  have d5 : n * 8 % 281474976710656 = m * 8 % 281474976710656 := by clear e0 e1 e2 e3 e4 d1 d2 d3; omega
  have d6 : n * 8 % 72057594037927936 = m * 8 % 72057594037927936 := by clear e0 e1 e2 e3 e4 e5 d1 d2 d3 d4; omega
  omega
theorem padL_length (s : ByteArray) : (padL s).length = s.data.toList.length + 1 + (119 - s.size % 64) % 64 + 8 := by
  simp only [padL, List.length_append, List.length_cons, List.length_replicate, lenBytes_length]
  omega
theorem size_len (s : ByteArray) : s.data.toList.length = s.size := by rw [Array.length_toList]; rfl
theorem padL_last (s : ByteArray) : (padL s).drop ((padL s).length - 8) = lenBytes s.size := by
  rw [padL_length]
  unfold padL
  rw [← List.cons_append, ← List.append_assoc]
  rw [List.drop_append_of_le_length (by simp; omega)]
  rw [List.drop_eq_nil_of_le (by simp; omega)]
  rfl
theorem padL_inj {a b : ByteArray} (ha : a.size ≤ 140737488355328) (hb : b.size ≤ 140737488355328) (h : padL a = padL b) : a.data.toList = b.data.toList := by
  have h1 := padL_last a
  rw [h, padL_last b] at h1
  have hs : b.size = a.size := lenBytes_inj hb ha h1
  have h2 : (padL a).take a.size = (padL b).take a.size := by rw [h]
  unfold padL at h2
  rw [List.take_left' (size_len a), ← hs, List.take_left' (size_len b)] at h2
  exact h2
theorem padB_apart {a b : ByteArray} (ha : a.size ≤ 140737488355328) (hb : b.size ≤ 140737488355328) : (((padB a).toList == (padB b).toList) == (a.toList == b.toList)) = true := by
  rw [Lib.toList_data, Lib.toList_data, Lib.toList_data, Lib.toList_data]
  show ((padL a == padL b) == (a.data.toList == b.data.toList)) = true
  rw [beq_iff_eq, Bool.eq_iff_iff, beq_iff_eq, beq_iff_eq]
  constructor
  · exact padL_inj ha hb
  · intro h
    have e : a = b := by
      apply ByteArray.ext
      exact Array.ext' h
    rw [e]
end Go.Proofs.Ytiknkkkfkifahaa.Sm
end
section
/-
  digits.Num walked: a number's bytes. By an AI agent.
-/
namespace Go.Proofs.Ytiknkkkfkifahaa.Sa
open Go.Proofs.Ytiknkkkfkifahaa.Sm
open Go.RowKit Go.Proofs.YtiknkkkfkifahaaW.PrintWords Go.Proofs.YtiknkkkfkifahaaW.PrintLast Go.Proofs.YtiknkkkfkifahaaW.PrintMore
set_option linter.unusedVariables false
set_option linter.unusedSimpArgs false

theorem wp_skip_seq {P : Program} {a : Act} {w : World} {Q : Exit → Act → World → Prop} {c : Code} (h : c.wp P Q a w) : (Code.skip.seq c).wp P Q a w := wp_seq (wp_skip h)
theorem wp_label_jumps {P : Program} {a : Act} {w : World} {Q : Exit → Act → World → Prop} {c rest : Code} (l : Nat) (J : Act → World → Prop) (μ : Act → World → Nat) (hf : findLabel c l = some (Code.skip.seq rest))
    (pass : ∀ a w, J a w → rest.wp P (Exit.jump l (fun a' w' => J a' w' ∧ μ a' w' < μ a w) Q) a w)
    (first : (∀ a w, J a w → rest.wp P (Exit.jump l J Q) a w) → c.wp P (Exit.jump l J Q) a w) : (Code.scope c).wp P Q a w :=
  wp_scope_jumps l J μ hf (first fun a w hJ => Code.wp_mono (fun e a' w' h => by
    cases e with
    | goto l' => exact ⟨h.1, h.2.1⟩
    | _ => exact h) (pass a w hJ)) (fun a w hJ => wp_skip_seq (pass a w hJ))

theorem addp (b off i : Nat) : (⟨b, off, none⟩ : Addr).add i = ⟨b, off + i, none⟩ := by
  unfold Addr.add
  split <;> simp_all
/-- the k lowest bytes of v, the highest first -/
def dg : Nat → Nat → List Int
  | 0, _ => []
  | k + 1, v => ((v / 256 ^ k % 256 : Nat) : Int) :: dg k v
/-- how many bytes v has (f at most) -/
def nl : Nat → Nat → Nat
  | 0, _ => 0
  | f + 1, v => if v = 0 then 0 else nl f (v / 256) + 1
def numI (v : Nat) : List Int := ((nl 8 v : Nat) : Int) :: dg (nl 8 v) v
def numB (v : Nat) : ByteArray := strOfNums (numI v)
theorem dg_length (k v : Nat) : (dg k v).length = k := by
  induction k with
  | zero => rfl
  | succ k ih => simp only [dg, List.length_cons, ih]
theorem nl_le (f v : Nat) : nl f v ≤ f := by
  induction f generalizing v with
  | zero => exact Nat.le_refl _
  | succ f ih =>
    unfold nl
    split
    · omega
    · have := ih (v / 256); omega
theorem nl_zero (f : Nat) : nl f 0 = 0 := by cases f <;> simp [nl]
theorem nl_succ {v : Nat} (f : Nat) (h : v ≠ 0) : nl (f + 1) v = nl f (v / 256) + 1 := by simp [nl, h]
theorem v_lt {v k : Nat} (hv : v < 18446744073709551616) (h : v / 256 ^ k ≠ 0) : k < 8 := by
  apply Decidable.byContradiction
  intro hk
  apply h
  apply Nat.div_eq_of_lt
  refine Nat.lt_of_lt_of_le hv ?_
  have h1 : (256 : Nat) ^ 8 ≤ 256 ^ k := Nat.pow_le_pow_right (by decide) (by omega)
  exact Nat.le_trans (by decide) h1
def nbuf (k v : Nat) : List Int := List.replicate (9 - k) 0 ++ dg k v
theorem nbuf_length (k v : Nat) (h : k ≤ 9) : (nbuf k v).length = 9 := by simp only [nbuf, List.length_append, List.length_replicate, dg_length]; omega
theorem nbuf_set (k j v : Nat) (h : k + (j + 1) = 9) (x : Int) : (nums .u8 (nbuf k v)).toArray.setIfInBounds j (.int .u8 x) = (nums .u8 (List.replicate j 0 ++ x :: dg k v)).toArray := by
  have e : 9 - k = j + 1 := by omega
  unfold nbuf nums
  rw [e, List.replicate_succ', List.append_assoc, List.setIfInBounds_toArray, List.map_append, List.map_append, List.set_append_right _ _ (by simp)]
  simp
structure NmW (w : World) (v k : Nat) (w' : World) : Prop where
  b : w'.heap[w.heap.size]? = some (.cells (nums .u8 (nbuf k v)).toArray 99 (0, 0))
  fin : nl 8 v = k + nl (8 - k) (v / 256 ^ k)
  bel : Below w.heap.size w w'
theorem run_at9 (g : Nat) (n : Nat) (h : n < 9) (z : Int) (hz : z = n) (w : World) : (Instr.indexAt 99 (.pointer (some ⟨g, 0, none⟩)) (.int .i64 z)).run Try.prog w = .ok (.pointer (some ⟨g, n, none⟩)) w := by
  subst hz
  have ha : Try.prog.arrayLen 99 = 9 := by kernel_rfl
  rw [run_indexAt_array w 99 ⟨g, 0, none⟩ .i64 n (by kernel_rfl), ha, if_pos ⟨by omega, by omega⟩]
  have hs : (sizeOf (Try.prog.elem 99)).run Try.prog w = .ok 1 w := by kernel_rfl
  rw [hs]
  simp [Result.andThen, add_plain]
set_option maxHeartbeats 8000000 in
set_option maxRecDepth 100000 in
theorem num_c (v : Nat) (hv : v < 18446744073709551616) (w : World) :
    Calls Try.prog 50 #[.int .u64 (v : Int)] w fun e w' => e = .returned (.string (numB v)) ∧ Below w.heap.size w w' := by
  have HV := Lib.hid hv
  clear hv
  go_enter Try.func50, Try.ntmps50
  go_wp2_with fail
  refine wp_label_jumps 0 (fun a' w' => ∃ (k m V : Nat) (u6 u7 u8 u9 u10 u11 u12 u13 u14 u15 u16 u17 u18 u19 u20 u21 u22 u23 u24 u25 : Value), k + m = 9 ∧ 1 ≤ m ∧ V = v / 256 ^ k ∧
    a' = { tmps := #[.int .u64 (V : Int), undef, .string ⟨#[]⟩, .pointer (some ⟨w.heap.size, 0, none⟩), .int .i64 (m : Int), .int .u8 (k : Int), u6, u7, u8, u9, u10, u11, u12, u13, u14, u15, u16, u17, u18, u19, u20, u21, u22, u23, u24, u25], defers := [] } ∧ NmW w v k w')
    (fun a' _ => (intOf (a'.tmps.getD 4 undef)).toNat) rfl ?pass ?first
  case first =>
    intro hrest
    go_wp2_with fail
    go_step3
    simp only [Exit.then]
    refine (by assumption : ∀ (a : Act) (w : World), Code.wp Try.prog _ _ a w → _ ) _ _ (hrest _ _ ?_)
    clear hrest
    refine ⟨0, 9, v, _, _, _, _, _, _, _, _, _, _, _, _, _, _, _, _, _, _, _, _, by omega, by omega, by simp, rfl, ⟨?_, ?_, ?_⟩⟩
    · exact new_ _ _ rfl
    · simp
    · exact (Below.refl _ _).alloc (Nat.le_refl _) _
  case pass =>
    rintro a' w' ⟨k, m, V, u6, u7, u8, u9, u10, u11, u12, u13, u14, u15, u16, u17, u18, u19, u20, u21, u22, u23, u24, u25, hkm, hm, eV, rfl, H⟩
    obtain ⟨hb, fin, HB⟩ := H
    obtain ⟨j, rfl⟩ : ∃ j, m = j + 1 := ⟨m - 1, by omega⟩
    rw [← eV] at fin
    have HVe := Lib.hid eV
    clear eV
    have hl : (nums .u8 (nbuf k v)).toArray.size = 9 := by simp [nums, nbuf_length k v (by omega)]
    obtain ⟨y, c0⟩ : ∃ y, w'.cell? ⟨w.heap.size, j, none⟩ = some y := ⟨_, (blk_cell hb j).trans (Array.getElem?_eq_getElem (by omega))⟩
    have f0 := blk_frozen hb j
    have hw : wrap64 (j : Int) = (j : Int) := Go.IntWalk.wrap64_in _ (by omega)
    have r0 := fun w' => run_at9 w.heap.size j (by omega) (j : Int) rfl w'
    by_cases h0 : V = 0
    · subst h0
      rw [nl_zero, Nat.add_zero] at fin
      have HN : numI v = (k : Int) :: dg k v := by unfold numI; rw [fin]
      have hb2 : (w'.setCell ⟨w.heap.size, j, none⟩ (.int .u8 (k : Int))).heap[w.heap.size]? = some (.cells (nums .u8 (List.replicate j 0 ++ (k : Int) :: dg k v)).toArray 99 (0, 0)) := by
        have := blk_set hb j (.int .u8 (k : Int))
        rw [nbuf_set k j v hkm] at this
        exact this
      have HB2 := Lib.hid (below_set HB (Nat.le_refl w.heap.size) (j := j) (v := .int .u8 (k : Int)))
      have hrd : ReadsInt (w'.setCell ⟨w.heap.size, j, none⟩ (.int .u8 (k : Int))) .u8 (some ⟨w.heap.size, j, none⟩) (9 - j) (numI v) := by
        rw [HN]
        refine ⟨by simp only [List.length_cons, dg_length]; omega, by omega, fun _ => ⟨_, rfl, fun i hi => ?_⟩⟩
        rw [addp]
        refine (blk_cell hb2 (j + i)).trans ?_
        have hl2 : i < ((k : Int) :: dg k v).length := by simp only [List.length_cons, dg_length]; omega
        unfold nums
        rw [List.getElem?_toArray, List.getElem?_map, List.getElem?_append_right (by simp), List.length_replicate, show j + i - j = i from by omega, List.getElem?_eq_getElem hl2, List.getD_eq_getElem?_getD, List.getElem?_eq_getElem hl2]
        rfl
      have cv := string_of_reads (P := Try.prog) (src := 98) (dst := 9) (c := 9 - j) Try.underlying98 Try.underlying5 Try.underlying9 hrd
      have sl : ∀ w' : World, (Instr.sliceAt 99 (.pointer (some ⟨w.heap.size, 0, none⟩)) (some (.int .i64 (j : Int))) none none).run Try.prog w' = .ok (.slice (some ⟨w.heap.size, j, none⟩) (9 - j) (9 - j)) w' := fun w' => by
        have ha : Try.prog.arrayLen 99 = 9 := by kernel_rfl
        have h := run_sliceAt_array_l (P := Try.prog) w' 99 ⟨w.heap.size, 0, none⟩ (by kernel_rfl) .i64 (j : Int) (by omega) (by rw [ha]; omega)
        have hs : (sizeOf (Try.prog.elem 99)).run Try.prog w' = .ok 1 w' := by kernel_rfl
        rw [h, hs, ha]
        simp [Result.andThen, slicedAt, addp]
        omega
      have HS := Lib.hid (show strOfNums (numI v) = numB v from rfl)
      rw [HS.out] at cv
      clear hb2 hrd HN fin hb HB hl HS
      go_wp2_with fail
      simp only [Exit.jump]
      go_ret
      exact ⟨rfl, HB2.out⟩
    · have hk8 : k < 8 := v_lt HV.out (by rw [← HVe.out]; exact h0)
      have hpos : 0 < V := by omega
      have hfin : nl 8 v = (k + 1) + nl (8 - (k + 1)) (v / 256 ^ (k + 1)) := by
        have e : 8 - k = (8 - (k + 1)) + 1 := by omega
        rw [e] at fin
        rw [nl_succ _ h0] at fin
        rw [Nat.pow_succ, ← Nat.div_div_eq_div_mul, ← HVe.out, fin]
        omega
      have hb2 : (w'.setCell ⟨w.heap.size, j, none⟩ (.int .u8 ((V : Int) % 256))).heap[w.heap.size]? = some (.cells (nums .u8 (nbuf (k + 1) v)).toArray 99 (0, 0)) := by
        have h := blk_set hb j (.int .u8 ((V : Int) % 256))
        rw [nbuf_set k j v hkm] at h
        rw [h]
        unfold nbuf
        rw [show 9 - (k + 1) = j from by omega, dg, ← HVe.out]
        rfl
      have HB2 := Lib.hid (below_set HB (Nat.le_refl w.heap.size) (j := j) (v := .int .u8 ((V : Int) % 256)))
      have HP := Lib.hid hpos
      have H2 := Lib.hid hb2
      have HF := Lib.hid hfin
      clear h0 hfin hb2 hb HB fin hl
      go_wp2_with fail
      go_step3
      have e1 : (V : Int) / 256 = ((V / 256 : Nat) : Int) := by omega
      have e2 : (k : Int) + 1 = ((k + 1 : Nat) : Int) := by omega
      rw [e1, e2]
      refine ⟨rfl, ⟨k + 1, j, V / 256, _, _, _, _, _, _, _, _, _, _, _, _, _, _, _, _, _, _, _, _, by omega, by omega, ?_, rfl, ⟨H2.out, HF.out, HB2.out⟩⟩, ?_⟩
      · rw [HVe.out, Nat.pow_succ, ← Nat.div_div_eq_div_mul]
      · simp only [intOf, Array.getD_eq_getD_getElem?, List.getElem?_toArray, List.getElem?_cons_succ, List.getElem?_cons_zero, Option.getD_some, Int.toNat_natCast]
        omega
end Go.Proofs.Ytiknkkkfkifahaa.Sa
end
section
/-
  strings.Builder's WriteByte and WriteString, walked at this program, for a builder that the call itself made. By an AI agent.
-/
namespace Go.Proofs.Ytiknkkkfkifahaa.Sa
open Go.RowKit Go.Proofs.YtiknkkkfkifahaaW.PrintWords Go.Proofs.YtiknkkkfkifahaaW.PrintLast Go.Proofs.YtiknkkkfkifahaaW.PrintMore
set_option linter.unusedVariables false
set_option linter.unusedSimpArgs false

abbrev BT : TypeId := 102
abbrev BE : TypeId := 5
theorem info_builder : ∃ j, Try.prog.info? BT = some j ∧ j.size = 2 := by
  have h : (Try.prog.info? BT).map (·.size) = some 2 := by kernel_rfl
  obtain ⟨j, hj, hs⟩ := Option.map_eq_some_iff.1 h
  exact ⟨j, hj, hs⟩
theorem lies_builder : liesAt Try.prog Try.prog.depth BT (2 / Try.prog.cellsOf BT) 0 BT 1 = true := by kernel_rfl
theorem info_byte : (Try.prog.info? BE).map (fun i => (i.zero, i.size, i.bytes)) = some (some (.int .u8 0), 1, 1) := by kernel_rfl

set_option maxHeartbeats 2000000 in
set_option maxRecDepth 100000 in
theorem check_used (b : Nat) (w : World) (h0 : w.cell? ⟨b, 0, none⟩ = some (.pointer (some ⟨b, 0, none⟩))) :
    Calls Try.prog 75 #[.pointer (some ⟨b, 0, none⟩)] w fun e w' => e = .returned (.tuple #[]) ∧ w' = w := by
  obtain ⟨j, hj, _⟩ := info_builder
  have hne := Lib.run_neq_ptr_same (P := Try.prog) w (tp := 100) ⟨b, 0, none⟩ Try.underlying100 hj
  clear hj
  go_enter Try.func75, Try.ntmps75
  go_wp2
  go_end0
  exact ⟨rfl, rfl⟩
set_option maxHeartbeats 2000000 in
set_option maxRecDepth 100000 in
theorem check_fresh (b : Nat) (w : World) (h0 : w.cell? ⟨b, 0, none⟩ = some (.pointer none)) (hsh : w.shape? b = some (BT, 2)) (hfz : w.frozen? ⟨b, 0, none⟩ = false) :
    Calls Try.prog 75 #[.pointer (some ⟨b, 0, none⟩)] w fun e w' => e = .returned (.tuple #[]) ∧ w' = w.setCell ⟨b, 0, none⟩ (.pointer (some ⟨b, 0, none⟩)) := by
  obtain ⟨j, hj, hjs⟩ := info_builder
  have k1 := Lib.run_to_unsafe (P := Try.prog) w (src := 100) (dst := 126) ⟨b, 0, none⟩ Try.underlying100 Try.underlying126 hj (by rw [hjs]; decide) hsh (Nat.zero_lt_succ 1)
  have k2 := Lib.run_from_unsafe (P := Try.prog) w (src := 126) (dst := 100) ⟨b, 0, none⟩ Try.underlying126 Try.underlying100 hj hsh lies_builder
  clear hj hjs hsh
  go_enter Try.func75, Try.ntmps75
  go_wp2
  rw [run_callFunc_extern Try.func85 (by kernel_rfl) (by kernel_rfl) (by kernel_rfl) (e := Extern.AbiNoEscape.same) (by kernel_rfl)]
  rw [Lib.run_noEscape]
  simp only [Result.andThen]
  rw [Oper.upon_value]
  go_wp2
  go_end0
  exact ⟨rfl, rfl⟩
theorem check_any (B b : Nat) (bs : List Value) (w : World) (h : Lib.IsBuilder BT BE B b bs w) :
    Calls Try.prog 75 #[.pointer (some ⟨b, 0, none⟩)] w fun e w' => e = .returned (.tuple #[]) ∧ (Lib.BuilderAt BT BE B b (.pointer (some ⟨b, 0, none⟩)) bs w' ∧ Below B w w') := by
  rcases h with h | h
  · refine (check_fresh b w h.cell0 h.shape h.frozen0).mono ?_
    rintro e w' ⟨rfl, rfl⟩
    exact ⟨rfl, h.used _, (Below.refl B w).setCell (p := ⟨b, 0, none⟩) h.1 _⟩
  · refine (check_used b w h.cell0).mono ?_
    rintro e w' ⟨rfl, rfl⟩
    exact ⟨rfl, h, Below.refl B _⟩

set_option maxHeartbeats 4000000 in
set_option maxRecDepth 100000 in
/-- A string more. -/
theorem write_string (B b : Nat) (bs : List Value) (s : ByteArray) (w : World) (h : Lib.IsBuilder BT BE B b bs w) (hlen : bs.length + s.size ≤ 140737488355328) (hBw : B ≤ w.heap.size) :
    Calls Try.prog 65 #[.pointer (some ⟨b, 0, none⟩), .string s] w fun e w' => e = .returned (.tuple #[.int .i64 s.size, .nilIface]) ∧ (Lib.BuilderAt BT BE B b (.pointer (some ⟨b, 0, none⟩)) (bs ++ Lib.strCells s) w' ∧ Below B w w') := by
  obtain ⟨i0, hi, hz0, hz1, hz2⟩ := info_parts info_byte
  go_enter Try.func65, Try.ntmps65
  go_wp2_with fail
  refine (check_any B b bs _ h).mono ?_
  rintro e w1 ⟨rfl, h1, hb1⟩
  obtain ⟨hB, v, hbk, hown, hne⟩ := h1
  have c0 : w1.cell? ⟨b, 0, none⟩ = some (.pointer (some ⟨b, 0, none⟩)) := by rw [Lib.cell_of_heap hbk]; rfl
  have c1 : w1.cell? ⟨b, 1, none⟩ = some v := by rw [Lib.cell_of_heap hbk]; rfl
  go_wp2_with (at_builtin; refine Lib.wpList_append_own_string _ rfl _ _ 98 9 rfl B BE i0 Try.underlying98 Try.underlying9 hi hz0 hz1 hz2 _ _ _ rfl hown s rfl ?c3 ?c4 ?c5 ?_)
  case c3 => unfold maxLen; omega
  case c4 => omega
  case c5 => have := hb1.size; omega
  intro v' w2 hown' hgrow _
  have hlt : b < w1.heap.size := blk_lt hbk
  have hb2 : w2.heap[b]? = some (.cells #[.pointer (some ⟨b, 0, none⟩), v] BT (0, 0)) := (hgrow.block b hlt (fun e => hne e.symm)).trans hbk
  have d0 : w2.cell? ⟨b, 0, none⟩ = some (.pointer (some ⟨b, 0, none⟩)) := by rw [Lib.cell_of_heap hb2]; rfl
  have d1 : w2.cell? ⟨b, 1, none⟩ = some v := by rw [Lib.cell_of_heap hb2]; rfl
  have f1 : w2.frozen? ⟨b, 1, none⟩ = false := Lib.frozen_of_heap hb2 1
  obtain ⟨ao, n', cap, rfl⟩ : ∃ ao n' cap, v' = .slice ao n' cap := by
    rcases hown'.2 with ⟨hv, _⟩ | ⟨g, cap, cur, hv, _⟩
    · exact ⟨_, _, _, hv⟩
    · exact ⟨_, _, _, hv⟩
  have HO := Lib.hid hown'
  have HG := Lib.hid hgrow
  have H1 := Lib.hid hb1
  have HW := Lib.hid hown
  have H2 := Lib.hid hb2
  clear hown' hgrow hb1 hown hbk hb2 h
  go_wp2
  go_ret2
  refine ⟨rfl, ?_, ?_⟩
  · exact Lib.BuilderAt.put (T := BT) (e := BE) hB H2.out (bs' := bs ++ Lib.strCells s) (by simpa [Lib.strCells_length] using HO.out) (by decide)
  · exact (H1.out.grown HG.out (by have := H1.out.size; omega) (fun k hk => (HW.out.lt k hk).1)).setCell (p := ⟨b, 1, none⟩) hB _
end Go.Proofs.Ytiknkkkfkifahaa.Sa
end
section
/-
  digits.Text and digits.Row walked: a text's bytes, a row's bytes. By an AI agent.
-/
namespace Go.Proofs.Ytiknkkkfkifahaa.Sa
open Go.Proofs.Ytiknkkkfkifahaa.Sm
open Go.RowKit Go.Proofs.YtiknkkkfkifahaaW.PrintWords Go.Proofs.YtiknkkkfkifahaaW.PrintLast Go.Proofs.YtiknkkkfkifahaaW.PrintMore
set_option linter.unusedVariables false
set_option linter.unusedSimpArgs false

theorem numB_size (v : Nat) : (numB v).size = nl 8 v + 1 := by
  unfold numB numI
  rw [strOfNums_size, List.length_cons, dg_length]
theorem numB_le (v : Nat) : (numB v).size ≤ 9 := by rw [numB_size]; have := nl_le 8 v; omega
def textB (t : ByteArray) : ByteArray := numB t.size ++ t
theorem textB_le (t : ByteArray) : (textB t).size ≤ t.size + 9 := by
  unfold textB
  rw [ByteArray.size_append]
  have := numB_le t.size
  omega
set_option maxHeartbeats 8000000 in
set_option maxRecDepth 100000 in
theorem text_c (t : ByteArray) (ht : t.size ≤ 140737488351232) (w : World) :
    Calls Try.prog 51 #[.string t] w fun e w' => e = .returned (.string (textB t)) ∧ Below w.heap.size w w' := by
  have hu : IntKind.u64.wrap (t.size : Int) = (t.size : Int) := by rw [IntKind.wrap_u64]; omega
  have n1 := numB_le t.size
  have hN := Lib.hid (fun w => num_c t.size (by omega) w)
  have hT := Lib.hid (show numB t.size ++ t = textB t from rfl)
  obtain ⟨X, eX⟩ : ∃ X, X = numB t.size := ⟨_, rfl⟩
  rw [← eX] at n1 hT hN
  clear eX
  go_enter Try.func51, Try.ntmps51
  go_wp2_with fail
  refine (hN.out _).mono ?_
  rintro e w1 ⟨rfl, hb⟩
  go_wp2_with fail
  go_ret
  exact ⟨by rw [← hT.out]; rfl, hb⟩

def rowL : List ByteArray → List UInt8
  | [] => []
  | t :: l => (textB t).data.toList ++ rowL l
def rowB (l : List ByteArray) : ByteArray := ⟨((numB l.length).data.toList ++ rowL l).toArray⟩
def sizes : List ByteArray → Nat
  | [] => 0
  | t :: l => t.size + 9 + sizes l
theorem rowL_length (l : List ByteArray) : (rowL l).length ≤ sizes l := by
  induction l with
  | nil => exact Nat.le_refl _
  | cons t l ih =>
    simp only [rowL, sizes, List.length_append]
    have := textB_le t
    have : (textB t).data.toList.length = (textB t).size := by rw [Array.length_toList]; rfl
    omega
theorem rowL_append (l m : List ByteArray) : rowL (l ++ m) = rowL l ++ rowL m := by
  induction l with
  | nil => rfl
  | cons t l ih => simp only [List.cons_append, rowL, ih, List.append_assoc]
theorem rowL_take (l : List ByteArray) (k : Nat) (h : k < l.length) : rowL (l.take (k + 1)) = rowL (l.take k) ++ (textB (l.getD k ByteArray.empty)).data.toList := by
  rw [List.take_succ_eq_append_getElem h, rowL_append]
  simp [rowL, List.getD_eq_getElem?_getD, List.getElem?_eq_getElem h]
theorem sizes_append (l m : List ByteArray) : sizes (l ++ m) = sizes l + sizes m := by
  induction l with
  | nil => simp [sizes]
  | cons t l ih => simp only [List.cons_append, sizes, ih]; omega
theorem sizes_take (l : List ByteArray) (k : Nat) : sizes (l.take k) ≤ sizes l := by
  have := sizes_append (l.take k) (l.drop k)
  rw [List.take_append_drop] at this
  omega
theorem sizes_get (l : List ByteArray) (k : Nat) (h : k < l.length) : sizes (l.take k) + (l.getD k ByteArray.empty).size + 9 ≤ sizes l := by
  have h1 := sizes_take l (k + 1)
  rw [List.take_succ_eq_append_getElem h, sizes_append] at h1
  simp only [sizes] at h1
  rw [List.getD_eq_getElem?_getD, List.getElem?_eq_getElem h]
  simp only [Option.getD_some]
  omega
theorem builder_below {B b : Nat} {p : Value} {bs : List Value} {w w' : World} (h : Lib.BuilderAt BT BE B b p bs w) (hb : Below w.heap.size w w') : Lib.BuilderAt BT BE B b p bs w' := by
  obtain ⟨h1, v, h2, h3, h4⟩ := h
  exact ⟨h1, v, blk_below h2 hb, pw_own_below h3 hb, h4⟩
theorem isBuilder_below {B b : Nat} {bs : List Value} {w w' : World} (h : Lib.IsBuilder BT BE B b bs w) (hb : Below w.heap.size w w') : Lib.IsBuilder BT BE B b bs w' := by
  rcases h with h | h
  · exact .inl (builder_below h hb)
  · exact .inr (builder_below h hb)
theorem byteCells_app (l m : List UInt8) : Lib.byteCells l ++ Lib.byteCells m = Lib.byteCells (l ++ m) := by simp [Lib.byteCells]
theorem meas {n kk : Nat} (hlt : kk < n) (hw : wrap64 ((kk : Int) + 1) = (kk : Int) + 1) : n - (intOf (Value.int .i64 (wrap64 ((kk : Int) + 1)))).toNat < n - (intOf (Value.int .i64 (kk : Int))).toNat := by
  rw [hw]
  show n - ((kk : Int) + 1).toNat < n - (kk : Int).toNat
  omega
set_option maxHeartbeats 8000000 in
set_option maxRecDepth 100000 in
theorem row_c (A : Option Addr) (c : Nat) (l : List ByteArray) (w : World) (hr : Kd.C Kd.string w A l.length l) (hsz : sizes l + 9 ≤ 140737488351232) :
    Calls Try.prog 52 #[.slice A l.length c] w fun e w' => e = .returned (.string (rowB l)) ∧ Below w.heap.size w w' := by
  have hl9 : ∀ l : List ByteArray, 9 * l.length ≤ sizes l := by
    intro l
    induction l with
    | nil => exact Nat.le_refl _
    | cons t l ih => simp only [sizes, List.length_cons]; omega
  have hlen := hl9 l
  clear hl9
  have hu : IntKind.u64.wrap (l.length : Int) = (l.length : Int) := by rw [IntKind.wrap_u64]; omega
  have hN := Lib.hid (fun w => num_c l.length (by omega) w)
  have n1 := numB_le l.length
  have HR := Lib.hid hr
  have HSZ := Lib.hid hsz
  have HLN := Lib.hid hlen
  have HN1 := Lib.hid n1
  clear hr hsz n1
  go_enter Try.func52, Try.ntmps52
  go_wp2_with fail
  refine (hN.out _).mono ?_
  rintro e w1 ⟨rfl, hb1⟩
  have HI := Lib.hid (isBuilder_below (Lib.fresh_isBuilder BT BE w) hb1)
  have HB1 := Lib.hid (below_step ((Below.refl w.heap.size w).alloc (Nat.le_refl _) _) hb1)
  clear hb1
  go_wp2_with fail
  refine (write_string w.heap.size w.heap.size _ _ _ HI.out (by have := HN1.out; simp only [List.length_nil]; omega) HB1.out.size).mono ?_
  rintro e w2 ⟨rfl, hi, hb2⟩
  have HI2 : Hid (Lib.BuilderAt BT BE w.heap.size w.heap.size (.pointer (some ⟨w.heap.size, 0, none⟩)) (Lib.byteCells ((numB l.length).data.toList ++ rowL (l.take 0))) w2) := Lib.hid (by
    rw [List.take_zero]
    show Lib.BuilderAt _ _ _ _ _ (Lib.byteCells (_ ++ [])) _
    rw [List.append_nil]
    exact hi)
  have HB2 := Lib.hid (HB1.out.trans hb2)
  clear hi hb2 HI HB1
  go_wp2_with fail
  go_loopw [13] (fun i wr => ∃ k : Nat, k ≤ l.length ∧ i = .int .i64 k ∧ Hid (Lib.BuilderAt BT BE w.heap.size w.heap.size (.pointer (some ⟨w.heap.size, 0, none⟩)) (Lib.byteCells ((numB l.length).data.toList ++ rowL (l.take k))) wr) ∧ Hid (Below w.heap.size w wr)) (fun i _ => l.length - (intOf i).toNat)
  case atStart => exact ⟨0, Nat.zero_le _, rfl, HI2, HB2⟩
  case round =>
    clear HI2 HB2 hlen
    obtain ⟨k, hk, rfl, HI, HB⟩ := hrel
    by_cases hlt : k < l.length
    · have hC := Kd.C_below HR.out HB.out
      obtain ⟨ad, cs, rfl, hcl, hK, hcell⟩ := Kd.C_get hC ByteArray.empty (k : Int) (by omega) (by omega)
      obtain ⟨x, ex⟩ : ∃ x, x = l.getD k ByteArray.empty := ⟨_, rfl⟩
      have hK' : cs = [.string x] := by rw [ex]; exact hK
      subst hK'
      have c0 : wr.cell? (ad.add k) = some (.string x) := by
        have h := hcell 0 _ rfl
        have e : ((k : Int).toNat * Kd.string.sz + 0) = k := by
          show (k : Int).toNat * 1 + 0 = k
          omega
        rw [e] at h
        exact h
      have hw : wrap64 ((k : Int) + 1) = (k : Int) + 1 := Go.IntWalk.wrap64_in _ (by have := HLN.out; have := HSZ.out; omega)
      have r0 : ∀ w' : World, (Instr.indexAt 22 (.slice (some ad) l.length c) (.int .i64 (k : Int))).run Try.prog w' = .ok (.pointer (some (ad.add k))) w' := fun w' => by
        rw [run_indexAt_slice w' 22 ad l.length c .i64 k (by kernel_rfl), if_pos ⟨by omega, by omega⟩]
        have hs : (sizeOf (Try.prog.elem 22)).run Try.prog w' = .ok 1 w' := by kernel_rfl
        rw [hs]
        simp [Result.andThen]
      have hz := sizes_get l k hlt
      rw [← ex] at hz
      have HX := Lib.hid (fun w => text_c x (by have := HSZ.out; omega) w)
      have HT := Lib.hid (rowL_take l k hlt)
      rw [← ex] at HT
      have hbnd : ((numB l.length).data.toList ++ rowL (l.take k)).length + (textB x).size ≤ 140737488355328 := by
        have h1 := rowL_length (l.take k)
        have h2 := textB_le x
        have h3 := HN1.out
        have h4 := HSZ.out
        have h5 : (numB l.length).data.toList.length = (numB l.length).size := by rw [Array.length_toList]; rfl
        rw [List.length_append]
        omega
      have HBD := Lib.hid hbnd
      clear hC hcl hK hcell hz hbnd ex
      go_wp2_with fail
      refine (HX.out _).mono ?_
      rintro e w3 ⟨rfl, hb3⟩
      have HI3 := Lib.hid (builder_below HI.out hb3)
      have HB3 := Lib.hid (below_step HB.out hb3)
      clear hb3 HI HB c0
      go_wp2_with fail
      refine (write_string w.heap.size w.heap.size _ _ _ (Or.inr HI3.out) (by have := HBD.out; rw [Lib.byteCells_length]; omega) HB3.out.size).mono ?_
      rintro e w4 ⟨rfl, hi, hb4⟩
      have HI4 := Lib.hid (hi : Lib.BuilderAt BT BE w.heap.size w.heap.size _ _ w4)
      have HB4 := Lib.hid (HB3.out.trans hb4)
      clear hi hb4 HI3 HB3
      go_wp2
      go_roundw
      case rel =>
        refine ⟨k + 1, by omega, by go_num, Lib.hid ?_, HB4⟩
        rw [HT.out, ← List.append_assoc, ← byteCells_app]
        exact HI4.out
      case measure => exact meas hlt hw
    · obtain rfl : k = l.length := by omega
      have HT : l.take l.length = l := List.take_of_length_le (Nat.le_refl _)
      rw [HT] at HI
      clear HT
      go_wp2_with fail
      refine (Try.Builder_String_any w.heap.size w.heap.size _ _ (Or.inr HI.out) HB.out.size).mono ?_
      rintro e w3 ⟨rfl, hb⟩
      have HB3 := Lib.hid (HB.out.trans hb)
      clear hb
      go_wp2
      go_ret
      exact ⟨rfl, HB3.out⟩
end Go.Proofs.Ytiknkkkfkifahaa.Sa
end
section
/-
  The reference's Num and Text walked: a number's bytes, a text's bytes. By an AI agent.
-/
namespace Go.Proofs.Ytiknkkkfkifahaa.Sa
open Go.Proofs.Ytiknkkkfkifahaa.Sm
open Go.RowKit Go.Proofs.YtiknkkkfkifahaaW.PrintWords Go.Proofs.YtiknkkkfkifahaaW.PrintLast Go.Proofs.YtiknkkkfkifahaaW.PrintMore
set_option linter.unusedVariables false
set_option linter.unusedSimpArgs false

theorem strOf_app (a b : List Int) : strOfNums a ++ strOfNums b = strOfNums (a ++ b) := by
  apply ByteArray.ext
  apply Array.ext'
  rw [ByteArray.data_append, Array.toList_append]
  simp [strOfNums]
theorem one_byte (w : World) (x : Int) : (convert 98 9 (.slice (some ⟨w.heap.size, 0, none⟩) 1 1)).run Try.prog (w.alloc (.cells #[.int .u8 x] 5)) = .ok (.string (strOfNums [x])) (w.alloc (.cells #[.int .u8 x] 5)) := by
  have hn : (w.alloc (.cells #[.int .u8 x] 5)).heap[w.heap.size]? = some (.cells #[.int .u8 x] 5 (0, 0)) := new_ _ _ rfl
  have hrd : ReadsInt (w.alloc (.cells #[.int .u8 x] 5)) .u8 (some ⟨w.heap.size, 0, none⟩) 1 [x] := by
    refine ⟨rfl, by omega, fun _ => ⟨_, rfl, fun i hi => ?_⟩⟩
    obtain rfl : i = 0 := by omega
    rw [addp]
    exact (blk_cell hn 0).trans rfl
  exact string_of_reads (P := Try.prog) (src := 98) (dst := 9) (c := 1) Try.underlying98 Try.underlying5 Try.underlying9 hrd
theorem meas2 {V : Nat} (h : 0 < V) : (intOf (Value.int .u64 ((V : Int) / 256))).toNat < (intOf (Value.int .u64 (V : Int))).toNat := by
  show ((V : Int) / 256).toNat < (V : Int).toNat
  omega
set_option maxHeartbeats 8000000 in
set_option maxRecDepth 100000 in
theorem rnum_c (v : Nat) (hv : v < 18446744073709551616) (w : World) :
    Calls Try.prog 54 #[.int .u64 (v : Int)] w fun e w' => e = .returned (.string (numB v)) ∧ Below w.heap.size w w' := by
  have HV := Lib.hid hv
  clear hv
  go_enter Try.func54, Try.ntmps54
  go_wp2_with fail
  go_loopw [0, 3] (fun nv sv wr => ∃ k V : Nat, k ≤ 8 ∧ V = v / 256 ^ k ∧ nv = .int .u64 (V : Int) ∧ sv = .string (strOfNums (dg k v)) ∧ nl 8 v = k + nl (8 - k) V ∧ Hid (Below w.heap.size w wr)) (fun nv _ _ => (intOf nv).toNat)
  case atStart => exact ⟨0, v, by omega, by simp, rfl, rfl, by simp, Lib.hid (Below.refl _ _)⟩
  case round =>
    obtain ⟨k, V, hk, eV, rfl, rfl, fin, HB⟩ := hrel
    have hs := strOfNums_size (dg k v)
    rw [dg_length] at hs
    obtain ⟨S, eS⟩ : ∃ S, S = strOfNums (dg k v) := ⟨_, rfl⟩
    rw [← eS] at hs ⊢
    by_cases h0 : V = 0
    · subst h0
      rw [nl_zero, Nat.add_zero] at fin
      have cv := one_byte wr (k : Int)
      have hov : ¬ 9223372036854775807 < (strOfNums [(k : Int)]).size + S.size := by rw [strOfNums_size, hs]; simp; omega
      have hN : strOfNums [(k : Int)] ++ S = numB v := by rw [eS, strOf_app]; unfold numB numI; rw [fin]; rfl
      have HN := Lib.hid hN
      have HB2 := Lib.hid (HB.out.alloc HB.out.size (.cells #[.int .u8 (k : Int)] 5))
      have hw : IntKind.u8.wrap (k : Int) = (k : Int) := Go.IntWalk.u8_in _ (by omega)
      generalize strOfNums [(k : Int)] = X at cv hov HN
      clear fin eS eV hN HB
      go_wp2_with fail
      go_ret
      exact ⟨by rw [← HN.out]; rfl, HB2.out⟩
    · have hk8 : k < 8 := v_lt HV.out (by rw [← eV]; exact h0)
      have hpos : 0 < V := by omega
      have hVv : V ≤ v := by rw [eV]; exact Nat.div_le_self _ _
      have hq : IntKind.u64.wrap ((V : Int) / 256) = ((V / 256 : Nat) : Int) := by have := HV.out; rw [IntKind.wrap_u64]; omega
      have cv := one_byte wr ((V : Int) % 256)
      have hov : ¬ 9223372036854775807 < (strOfNums [(V : Int) % 256]).size + S.size := by rw [strOfNums_size, hs]; simp; omega
      have hN : strOfNums [(V : Int) % 256] ++ S = strOfNums (dg (k + 1) v) := by
        rw [eS, strOf_app, dg, ← eV]
        rfl
      have hfin : nl 8 v = (k + 1) + nl (8 - (k + 1)) (V / 256) := by
        have e : 8 - k = (8 - (k + 1)) + 1 := by omega
        rw [e, nl_succ _ h0] at fin
        rw [fin]
        omega
      have HN := Lib.hid hN
      have HF := Lib.hid hfin
      have HE := Lib.hid eV
      have HP := Lib.hid hpos
      have HB2 := Lib.hid (HB.out.alloc HB.out.size (.cells #[.int .u8 ((V : Int) % 256)] 5))
      generalize strOfNums [(V : Int) % 256] = X at cv hov HN
      clear fin eS eV hN HB h0 hfin
      go_wp2_with fail
      go_roundw
      case rel =>
        refine ⟨k + 1, V / 256, by omega, ?_, ?_, ?_, HF.out, HB2⟩
        · rw [HE.out, Nat.pow_succ, ← Nat.div_div_eq_div_mul]
        · have e1 : ((V / 256 : Nat) : Int) = (V : Int) / 256 := by omega
          rw [e1]
        · rw [← HN.out]
      case measure => exact meas2 HP.out
set_option maxHeartbeats 8000000 in
set_option maxRecDepth 100000 in
theorem rtext_c (t : ByteArray) (ht : t.size ≤ 140737488351232) (w : World) :
    Calls Try.prog 55 #[.string t] w fun e w' => e = .returned (.string (textB t)) ∧ Below w.heap.size w w' := by
  have hu : IntKind.u64.wrap (t.size : Int) = (t.size : Int) := by rw [IntKind.wrap_u64]; omega
  have n1 := numB_le t.size
  have hN := Lib.hid (fun w => rnum_c t.size (by omega) w)
  have hT := Lib.hid (show numB t.size ++ t = textB t from rfl)
  obtain ⟨X, eX⟩ : ∃ X, X = numB t.size := ⟨_, rfl⟩
  rw [← eX] at n1 hT hN
  clear eX
  go_enter Try.func55, Try.ntmps55
  go_wp2_with fail
  refine (hN.out _).mono ?_
  rintro e w1 ⟨rfl, hb⟩
  go_wp2_with fail
  go_ret
  exact ⟨by rw [← hT.out]; rfl, hb⟩
set_option maxHeartbeats 8000000 in
set_option maxRecDepth 100000 in
theorem rrow_c (A : Option Addr) (c : Nat) (l : List ByteArray) (w : World) (hr : Kd.C Kd.string w A l.length l) (hsz : sizes l + 9 ≤ 140737488351232) :
    Calls Try.prog 56 #[.slice A l.length c] w fun e w' => e = .returned (.string (rowB l)) ∧ Below w.heap.size w w' := by
  have hl9 : ∀ l : List ByteArray, 9 * l.length ≤ sizes l := by
    intro l
    induction l with
    | nil => exact Nat.le_refl _
    | cons t l ih => simp only [sizes, List.length_cons]; omega
  have hlen := hl9 l
  clear hl9
  have hu : IntKind.u64.wrap (l.length : Int) = (l.length : Int) := by rw [IntKind.wrap_u64]; omega
  have hN := Lib.hid (fun w => rnum_c l.length (by omega) w)
  have n1 := numB_le l.length
  have HR := Lib.hid hr
  have HSZ := Lib.hid hsz
  have HLN := Lib.hid hlen
  have HN1 := Lib.hid n1
  have kb := fun W => print_bytes (P := Try.prog) 9 98 5 Try.underlying9 Try.underlying98 Try.underlying5 (numB l.length) W
  clear hr hsz n1
  go_enter Try.func56, Try.ntmps56
  go_wp2_with fail
  refine (hN.out _).mono ?_
  rintro e w1 ⟨rfl, hb1⟩
  have HB1 := Lib.hid hb1
  clear hb1
  go_wp2_with fail
  have HBB := Lib.hid (BB.of_bytes (base := w.heap.size) (w := w1) (numB l.length) HB1.out.size (by have := HN1.out; omega))
  have HB2 := Lib.hid (bytes_below HB1.out HB1.out.size 5 (numB l.length))
  clear kb HB1 hlen
  go_loopw [3, 4] (fun v i wr => ∃ k : Nat, k ≤ l.length ∧ i = .int .i64 k ∧ Hid (BB w.heap.size wr v (((numB l.length).data.toList ++ rowL (l.take k)).map fun b : UInt8 => ((b.toNat : Nat) : Int))) ∧ Hid (Below w.heap.size w wr)) (fun _ i _ => l.length - (intOf i).toNat)
  case atStart =>
    refine ⟨0, Nat.zero_le _, rfl, Lib.hid ?_, HB2⟩
    rw [List.take_zero]
    show BB _ _ _ ((_ ++ []).map _)
    rw [List.append_nil]
    exact HBB.out
  case round =>
    clear HBB HB2
    obtain ⟨k, hk, rfl, HI, HB⟩ := hrel
    by_cases hlt : k < l.length
    · have hC := Kd.C_below HR.out HB.out
      obtain ⟨ad, cs, rfl, hcl, hK, hcell⟩ := Kd.C_get hC ByteArray.empty (k : Int) (by omega) (by omega)
      obtain ⟨x, ex⟩ : ∃ x, x = l.getD k ByteArray.empty := ⟨_, rfl⟩
      have hK' : cs = [.string x] := by rw [ex]; exact hK
      subst hK'
      have c0 : wr.cell? (ad.add k) = some (.string x) := by
        have h := hcell 0 _ rfl
        have e : ((k : Int).toNat * Kd.string.sz + 0) = k := by
          show (k : Int).toNat * 1 + 0 = k
          omega
        rw [e] at h
        exact h
      have hw : wrap64 ((k : Int) + 1) = (k : Int) + 1 := Go.IntWalk.wrap64_in _ (by have := HLN.out; have := HSZ.out; omega)
      have r0 : ∀ w' : World, (Instr.indexAt 22 (.slice (some ad) l.length c) (.int .i64 (k : Int))).run Try.prog w' = .ok (.pointer (some (ad.add k))) w' := fun w' => by
        rw [run_indexAt_slice w' 22 ad l.length c .i64 k (by kernel_rfl), if_pos ⟨by omega, by omega⟩]
        have hs : (sizeOf (Try.prog.elem 22)).run Try.prog w' = .ok 1 w' := by kernel_rfl
        rw [hs]
        simp [Result.andThen]
      have hz := sizes_get l k hlt
      rw [← ex] at hz
      have HX := Lib.hid (fun w => rtext_c x (by have := HSZ.out; omega) w)
      have HT := Lib.hid (rowL_take l k hlt)
      rw [← ex] at HT
      have hbnd : (((numB l.length).data.toList ++ rowL (l.take k)).map fun b : UInt8 => ((b.toNat : Nat) : Int)).length + (textB x).size ≤ 140737488355328 := by
        have h1 := rowL_length (l.take k)
        have h2 := textB_le x
        have h3 := HN1.out
        have h4 := HSZ.out
        have h5 : (numB l.length).data.toList.length = (numB l.length).size := by rw [Array.length_toList]; rfl
        rw [List.length_map, List.length_append]
        omega
      have HBD := Lib.hid hbnd
      clear hC hcl hK hcell hz hbnd ex
      go_wp2_with fail
      refine (HX.out _).mono ?_
      rintro e w3 ⟨rfl, hb3⟩
      have HI3 := Lib.hid (HI.out.below hb3)
      have HB3 := Lib.hid (below_step HB.out hb3)
      clear hb3 HI HB c0
      go_wp2_with (at_builtin; refine wpList_bb_str (base := w.heap.size) (textB x) rfl _ _ rfl rfl rfl HI3.out HBD.out HB3.out.size ?_)
      intro v4 w4 hbb hg
      have HI4 := Lib.hid hbb
      have HB4 := Lib.hid (HB3.out.grown hg HB3.out.size (fun k hk => HI3.out.base k hk))
      clear hbb hg HI3 HB3
      go_wp2
      go_roundw
      case rel =>
        refine ⟨k + 1, by omega, by go_num, Lib.hid ?_, HB4⟩
        have h4 := HI4.out
        rw [HT.out]
        simp only [List.map_append, List.append_assoc] at h4 ⊢
        exact h4
      case measure => exact meas hlt hw
    · obtain rfl : k = l.length := by omega
      have HT : l.take l.length = l := List.take_of_length_le (Nat.le_refl _)
      rw [HT] at HI
      clear HT
      have cv := HI.out.str
      rw [str_bytes] at cv
      have HS := Lib.hid (show (⟨((numB l.length).data.toList ++ rowL l).toArray⟩ : ByteArray) = rowB l from rfl)
      rw [HS.out] at cv
      clear HS HI
      go_wp2_with fail
      go_ret
      exact ⟨rfl, HB.out⟩
end Go.Proofs.Ytiknkkkfkifahaa.Sa
end
