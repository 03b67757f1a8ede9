import Derived.Test.YtdppmkcahfjceaaVCoinFitsHz
import Derived.Lib.Strings
import Derived.ScopeJumps
import Derived.WalkMore
import Derived.Lib.Builder
import Derived.Lib.AppendStr
import Derived.Lib.UnsafeStr
import Derived.Lib.MakeNoZero
import Derived.Laws.Externs
import Derived.OwnWalk
import Derived.Test.YtdppmkcahfjceaaVCoinFitsShelf
import Derived.Test.YtdppmkcahfjceaaVCoinFitsRz
/- What this claim names of the words that its proofs lean on: gathered out of them by a program of this session (shake.py). By an AI agent. -/
section
/-
  Plain laws of the digest: an example, sizes, what tells texts apart. No program. By an AI agent.
-/
namespace Go.Proofs.Ytdppmkcahfjceaa.Sm
open Go Go.RowKit

theorem bytes4_len (l : List Int) : (l.flatMap bytes4).length = 4 * l.length := by
  induction l with
  | nil => rfl
  | cons x l ih => simp only [List.flatMap_cons, List.length_append, ih, List.length_cons]; simp [bytes4]; omega
theorem sumB_size (s : ByteArray) : (sumB s).size = 32 := by
  show ((sumS s).list.flatMap bytes4).toArray.size = 32
  rw [List.size_toArray, bytes4_len]
  rfl
end Go.Proofs.Ytdppmkcahfjceaa.Sm
end
section
/-
  digits.Num walked: a number's bytes. By an AI agent.
-/
namespace Go.Proofs.Ytdppmkcahfjceaa.Sa
open Go.Proofs.Ytdppmkcahfjceaa.Sm
open Go.RowKit Go.Proofs.YtdppmkcahfjceaaW.PrintWords Go.Proofs.YtdppmkcahfjceaaW.PrintLast Go.Proofs.YtdppmkcahfjceaaW.PrintMore
set_option linter.unusedVariables false
set_option linter.unusedSimpArgs false

theorem wp_skip_seq {P : Program} {a : Act} {w : World} {Q : Exit → Act → World → Prop} {c : Code} (h : c.wp P Q a w) : (Code.skip.seq c).wp P Q a w := wp_seq (wp_skip h)
theorem wp_label_jumps {P : Program} {a : Act} {w : World} {Q : Exit → Act → World → Prop} {c rest : Code} (l : Nat) (J : Act → World → Prop) (μ : Act → World → Nat) (hf : findLabel c l = some (Code.skip.seq rest))
    (pass : ∀ a w, J a w → rest.wp P (Exit.jump l (fun a' w' => J a' w' ∧ μ a' w' < μ a w) Q) a w)
    (first : (∀ a w, J a w → rest.wp P (Exit.jump l J Q) a w) → c.wp P (Exit.jump l J Q) a w) : (Code.scope c).wp P Q a w :=
  wp_scope_jumps l J μ hf (first fun a w hJ => Code.wp_mono (fun e a' w' h => by
    cases e with
    | goto l' => exact ⟨h.1, h.2.1⟩
    | _ => exact h) (pass a w hJ)) (fun a w hJ => wp_skip_seq (pass a w hJ))

theorem addp (b off i : Nat) : (⟨b, off, none⟩ : Addr).add i = ⟨b, off + i, none⟩ := by
  unfold Addr.add
  split <;> simp_all
/-- the k lowest bytes of v, the highest first -/
def dg : Nat → Nat → List Int
  | 0, _ => []
  | k + 1, v => ((v / 256 ^ k % 256 : Nat) : Int) :: dg k v
/-- how many bytes v has (f at most) -/
def nl : Nat → Nat → Nat
  | 0, _ => 0
  | f + 1, v => if v = 0 then 0 else nl f (v / 256) + 1
def numI (v : Nat) : List Int := ((nl 8 v : Nat) : Int) :: dg (nl 8 v) v
def numB (v : Nat) : ByteArray := strOfNums (numI v)
theorem dg_length (k v : Nat) : (dg k v).length = k := by
  induction k with
  | zero => rfl
  | succ k ih => simp only [dg, List.length_cons, ih]
theorem nl_le (f v : Nat) : nl f v ≤ f := by
  induction f generalizing v with
  | zero => exact Nat.le_refl _
  | succ f ih =>
    unfold nl
    split
    · omega
    · have := ih (v / 256); omega
theorem nl_zero (f : Nat) : nl f 0 = 0 := by cases f <;> simp [nl]
theorem nl_succ {v : Nat} (f : Nat) (h : v ≠ 0) : nl (f + 1) v = nl f (v / 256) + 1 := by simp [nl, h]
theorem v_lt {v k : Nat} (hv : v < 18446744073709551616) (h : v / 256 ^ k ≠ 0) : k < 8 := by
  apply Decidable.byContradiction
  intro hk
  apply h
  apply Nat.div_eq_of_lt
  refine Nat.lt_of_lt_of_le hv ?_
  have h1 : (256 : Nat) ^ 8 ≤ 256 ^ k := Nat.pow_le_pow_right (by decide) (by omega)
  exact Nat.le_trans (by decide) h1
def nbuf (k v : Nat) : List Int := List.replicate (9 - k) 0 ++ dg k v
theorem nbuf_length (k v : Nat) (h : k ≤ 9) : (nbuf k v).length = 9 := by simp only [nbuf, List.length_append, List.length_replicate, dg_length]; omega
theorem nbuf_set (k j v : Nat) (h : k + (j + 1) = 9) (x : Int) : (nums .u8 (nbuf k v)).toArray.setIfInBounds j (.int .u8 x) = (nums .u8 (List.replicate j 0 ++ x :: dg k v)).toArray := by
  have e : 9 - k = j + 1 := by omega
  unfold nbuf nums
  rw [e, List.replicate_succ', List.append_assoc, List.setIfInBounds_toArray, List.map_append, List.map_append, List.set_append_right _ _ (by simp)]
  simp
structure NmW (w : World) (v k : Nat) (w' : World) : Prop where
  b : w'.heap[w.heap.size]? = some (.cells (nums .u8 (nbuf k v)).toArray 143 (0, 0))
  fin : nl 8 v = k + nl (8 - k) (v / 256 ^ k)
  bel : Below w.heap.size w w'
theorem run_at9 (g : Nat) (n : Nat) (h : n < 9) (z : Int) (hz : z = n) (w : World) : (Instr.indexAt 143 (.pointer (some ⟨g, 0, none⟩)) (.int .i64 z)).run Try.prog w = .ok (.pointer (some ⟨g, n, none⟩)) w := by
  subst hz
  have ha : Try.prog.arrayLen 143 = 9 := by kernel_rfl
  rw [run_indexAt_array w 143 ⟨g, 0, none⟩ .i64 n (by kernel_rfl), ha, if_pos ⟨by omega, by omega⟩]
  have hs : (sizeOf (Try.prog.elem 143)).run Try.prog w = .ok 1 w := by kernel_rfl
  rw [hs]
  simp [Result.andThen, add_plain]
set_option maxHeartbeats 8000000 in
set_option maxRecDepth 100000 in
theorem num_c (v : Nat) (hv : v < 18446744073709551616) (w : World) :
    Calls Try.prog 62 #[.int .u64 (v : Int)] w fun e w' => e = .returned (.string (numB v)) ∧ Below w.heap.size w w' := by
  have HV := Lib.hid hv
  clear hv
  go_enter Try.func62, Try.ntmps62
  go_wp2_with fail
  refine wp_label_jumps 0 (fun a' w' => ∃ (k m V : Nat) (u6 u7 u8 u9 u10 u11 u12 u13 u14 u15 u16 u17 u18 u19 u20 u21 u22 u23 u24 u25 : Value), k + m = 9 ∧ 1 ≤ m ∧ V = v / 256 ^ k ∧
    a' = { tmps := #[.int .u64 (V : Int), undef, .string ⟨#[]⟩, .pointer (some ⟨w.heap.size, 0, none⟩), .int .i64 (m : Int), .int .u8 (k : Int), u6, u7, u8, u9, u10, u11, u12, u13, u14, u15, u16, u17, u18, u19, u20, u21, u22, u23, u24, u25], defers := [] } ∧ NmW w v k w')
    (fun a' _ => (intOf (a'.tmps.getD 4 undef)).toNat) rfl ?pass ?first
  case first =>
    intro hrest
    go_wp2_with fail
    go_step3
    simp only [Exit.then]
    refine (by assumption : ∀ (a : Act) (w : World), Code.wp Try.prog _ _ a w → _ ) _ _ (hrest _ _ ?_)
    clear hrest
    refine ⟨0, 9, v, _, _, _, _, _, _, _, _, _, _, _, _, _, _, _, _, _, _, _, _, by omega, by omega, by simp, rfl, ⟨?_, ?_, ?_⟩⟩
    · exact new_ _ _ rfl
    · simp
    · exact (Below.refl _ _).alloc (Nat.le_refl _) _
  case pass =>
    rintro a' w' ⟨k, m, V, u6, u7, u8, u9, u10, u11, u12, u13, u14, u15, u16, u17, u18, u19, u20, u21, u22, u23, u24, u25, hkm, hm, eV, rfl, H⟩
    obtain ⟨hb, fin, HB⟩ := H
    obtain ⟨j, rfl⟩ : ∃ j, m = j + 1 := ⟨m - 1, by omega⟩
    rw [← eV] at fin
    have HVe := Lib.hid eV
    clear eV
    have hl : (nums .u8 (nbuf k v)).toArray.size = 9 := by simp [nums, nbuf_length k v (by omega)]
    obtain ⟨y, c0⟩ : ∃ y, w'.cell? ⟨w.heap.size, j, none⟩ = some y := ⟨_, (blk_cell hb j).trans (Array.getElem?_eq_getElem (by omega))⟩
    have f0 := blk_frozen hb j
    have hw : wrap64 (j : Int) = (j : Int) := Go.IntWalk.wrap64_in _ (by omega)
    have r0 := fun w' => run_at9 w.heap.size j (by omega) (j : Int) rfl w'
    by_cases h0 : V = 0
    · subst h0
      rw [nl_zero, Nat.add_zero] at fin
      have HN : numI v = (k : Int) :: dg k v := by unfold numI; rw [fin]
      have hb2 : (w'.setCell ⟨w.heap.size, j, none⟩ (.int .u8 (k : Int))).heap[w.heap.size]? = some (.cells (nums .u8 (List.replicate j 0 ++ (k : Int) :: dg k v)).toArray 143 (0, 0)) := by
        have := blk_set hb j (.int .u8 (k : Int))
        rw [nbuf_set k j v hkm] at this
        exact this
      have HB2 := Lib.hid (below_set HB (Nat.le_refl w.heap.size) (j := j) (v := .int .u8 (k : Int)))
      have hrd : ReadsInt (w'.setCell ⟨w.heap.size, j, none⟩ (.int .u8 (k : Int))) .u8 (some ⟨w.heap.size, j, none⟩) (9 - j) (numI v) := by
        rw [HN]
        refine ⟨by simp only [List.length_cons, dg_length]; omega, by omega, fun _ => ⟨_, rfl, fun i hi => ?_⟩⟩
        rw [addp]
        refine (blk_cell hb2 (j + i)).trans ?_
        have hl2 : i < ((k : Int) :: dg k v).length := by simp only [List.length_cons, dg_length]; omega
        unfold nums
        rw [List.getElem?_toArray, List.getElem?_map, List.getElem?_append_right (by simp), List.length_replicate, show j + i - j = i from by omega, List.getElem?_eq_getElem hl2, List.getD_eq_getElem?_getD, List.getElem?_eq_getElem hl2]
        rfl
      have cv := string_of_reads (P := Try.prog) (src := 97) (dst := 9) (c := 9 - j) Try.underlying97 Try.underlying5 Try.underlying9 hrd
      have sl : ∀ w' : World, (Instr.sliceAt 143 (.pointer (some ⟨w.heap.size, 0, none⟩)) (some (.int .i64 (j : Int))) none none).run Try.prog w' = .ok (.slice (some ⟨w.heap.size, j, none⟩) (9 - j) (9 - j)) w' := fun w' => by
        have ha : Try.prog.arrayLen 143 = 9 := by kernel_rfl
        have h := run_sliceAt_array_l (P := Try.prog) w' 143 ⟨w.heap.size, 0, none⟩ (by kernel_rfl) .i64 (j : Int) (by omega) (by rw [ha]; omega)
        have hs : (sizeOf (Try.prog.elem 143)).run Try.prog w' = .ok 1 w' := by kernel_rfl
        rw [h, hs, ha]
        simp [Result.andThen, slicedAt, addp]
        omega
      have HS := Lib.hid (show strOfNums (numI v) = numB v from rfl)
      rw [HS.out] at cv
      clear hb2 hrd HN fin hb HB hl HS
      go_wp2_with fail
      simp only [Exit.jump]
      go_ret
      exact ⟨rfl, HB2.out⟩
    · have hk8 : k < 8 := v_lt HV.out (by rw [← HVe.out]; exact h0)
      have hpos : 0 < V := by omega
      have hfin : nl 8 v = (k + 1) + nl (8 - (k + 1)) (v / 256 ^ (k + 1)) := by
        have e : 8 - k = (8 - (k + 1)) + 1 := by omega
        rw [e] at fin
        rw [nl_succ _ h0] at fin
        rw [Nat.pow_succ, ← Nat.div_div_eq_div_mul, ← HVe.out, fin]
        omega
      have hb2 : (w'.setCell ⟨w.heap.size, j, none⟩ (.int .u8 ((V : Int) % 256))).heap[w.heap.size]? = some (.cells (nums .u8 (nbuf (k + 1) v)).toArray 143 (0, 0)) := by
        have h := blk_set hb j (.int .u8 ((V : Int) % 256))
        rw [nbuf_set k j v hkm] at h
        rw [h]
        unfold nbuf
        rw [show 9 - (k + 1) = j from by omega, dg, ← HVe.out]
        rfl
      have HB2 := Lib.hid (below_set HB (Nat.le_refl w.heap.size) (j := j) (v := .int .u8 ((V : Int) % 256)))
      have HP := Lib.hid hpos
      have H2 := Lib.hid hb2
      have HF := Lib.hid hfin
      clear h0 hfin hb2 hb HB fin hl
      go_wp2_with fail
      go_step3
      have e1 : (V : Int) / 256 = ((V / 256 : Nat) : Int) := by omega
      have e2 : (k : Int) + 1 = ((k + 1 : Nat) : Int) := by omega
      rw [e1, e2]
      refine ⟨rfl, ⟨k + 1, j, V / 256, _, _, _, _, _, _, _, _, _, _, _, _, _, _, _, _, _, _, _, _, by omega, by omega, ?_, rfl, ⟨H2.out, HF.out, HB2.out⟩⟩, ?_⟩
      · rw [HVe.out, Nat.pow_succ, ← Nat.div_div_eq_div_mul]
      · simp only [intOf, Array.getD_eq_getD_getElem?, List.getElem?_toArray, List.getElem?_cons_succ, List.getElem?_cons_zero, Option.getD_some, Int.toNat_natCast]
        omega
end Go.Proofs.Ytdppmkcahfjceaa.Sa
end
section
/-
  strings.Builder's WriteByte and WriteString, walked at this program, for a builder that the call itself made. By an AI agent.
-/
namespace Go.Proofs.Ytdppmkcahfjceaa.Sa
open Go.RowKit Go.Proofs.YtdppmkcahfjceaaW.PrintWords Go.Proofs.YtdppmkcahfjceaaW.PrintLast Go.Proofs.YtdppmkcahfjceaaW.PrintMore
set_option linter.unusedVariables false
set_option linter.unusedSimpArgs false

end Go.Proofs.Ytdppmkcahfjceaa.Sa
end
section
/-
  digits.Text and digits.Row walked: a text's bytes, a row's bytes. By an AI agent.
-/
namespace Go.Proofs.Ytdppmkcahfjceaa.Sa
open Go.Proofs.Ytdppmkcahfjceaa.Sm
open Go.RowKit Go.Proofs.YtdppmkcahfjceaaW.PrintWords Go.Proofs.YtdppmkcahfjceaaW.PrintLast Go.Proofs.YtdppmkcahfjceaaW.PrintMore
set_option linter.unusedVariables false
set_option linter.unusedSimpArgs false

theorem numB_size (v : Nat) : (numB v).size = nl 8 v + 1 := by
  unfold numB numI
  rw [strOfNums_size, List.length_cons, dg_length]
theorem numB_le (v : Nat) : (numB v).size ≤ 9 := by rw [numB_size]; have := nl_le 8 v; omega
def textB (t : ByteArray) : ByteArray := numB t.size ++ t
theorem textB_le (t : ByteArray) : (textB t).size ≤ t.size + 9 := by
  unfold textB
  rw [ByteArray.size_append]
  have := numB_le t.size
  omega
set_option maxHeartbeats 8000000 in
set_option maxRecDepth 100000 in
theorem text_c (t : ByteArray) (ht : t.size ≤ 140737488351232) (w : World) :
    Calls Try.prog 61 #[.string t] w fun e w' => e = .returned (.string (textB t)) ∧ Below w.heap.size w w' := by
  have hu : IntKind.u64.wrap (t.size : Int) = (t.size : Int) := by rw [IntKind.wrap_u64]; omega
  have n1 := numB_le t.size
  have hN := Lib.hid (fun w => num_c t.size (by omega) w)
  have hT := Lib.hid (show numB t.size ++ t = textB t from rfl)
  obtain ⟨X, eX⟩ : ∃ X, X = numB t.size := ⟨_, rfl⟩
  rw [← eX] at n1 hT hN
  clear eX
  go_enter Try.func61, Try.ntmps61
  go_wp2_with fail
  refine (hN.out _).mono ?_
  rintro e w1 ⟨rfl, hb⟩
  go_wp2_with fail
  go_ret
  exact ⟨by rw [← hT.out]; rfl, hb⟩

def sizes : List ByteArray → Nat
  | [] => 0
  | t :: l => t.size + 9 + sizes l
end Go.Proofs.Ytdppmkcahfjceaa.Sa
end
section
/-
  The reference's Num and Text walked: a number's bytes, a text's bytes. By an AI agent.
-/
namespace Go.Proofs.Ytdppmkcahfjceaa.Sa
open Go.Proofs.Ytdppmkcahfjceaa.Sm
open Go.RowKit Go.Proofs.YtdppmkcahfjceaaW.PrintWords Go.Proofs.YtdppmkcahfjceaaW.PrintLast Go.Proofs.YtdppmkcahfjceaaW.PrintMore
set_option linter.unusedVariables false
set_option linter.unusedSimpArgs false

theorem strOf_app (a b : List Int) : strOfNums a ++ strOfNums b = strOfNums (a ++ b) := by
  apply ByteArray.ext
  apply Array.ext'
  rw [ByteArray.data_append, Array.toList_append]
  simp [strOfNums]
theorem one_byte (w : World) (x : Int) : (convert 97 9 (.slice (some ⟨w.heap.size, 0, none⟩) 1 1)).run Try.prog (w.alloc (.cells #[.int .u8 x] 5)) = .ok (.string (strOfNums [x])) (w.alloc (.cells #[.int .u8 x] 5)) := by
  have hn : (w.alloc (.cells #[.int .u8 x] 5)).heap[w.heap.size]? = some (.cells #[.int .u8 x] 5 (0, 0)) := new_ _ _ rfl
  have hrd : ReadsInt (w.alloc (.cells #[.int .u8 x] 5)) .u8 (some ⟨w.heap.size, 0, none⟩) 1 [x] := by
    refine ⟨rfl, by omega, fun _ => ⟨_, rfl, fun i hi => ?_⟩⟩
    obtain rfl : i = 0 := by omega
    rw [addp]
    exact (blk_cell hn 0).trans rfl
  exact string_of_reads (P := Try.prog) (src := 97) (dst := 9) (c := 1) Try.underlying97 Try.underlying5 Try.underlying9 hrd
theorem meas2 {V : Nat} (h : 0 < V) : (intOf (Value.int .u64 ((V : Int) / 256))).toNat < (intOf (Value.int .u64 (V : Int))).toNat := by
  show ((V : Int) / 256).toNat < (V : Int).toNat
  omega
set_option maxHeartbeats 8000000 in
set_option maxRecDepth 100000 in
theorem rnum_c (v : Nat) (hv : v < 18446744073709551616) (w : World) :
    Calls Try.prog 66 #[.int .u64 (v : Int)] w fun e w' => e = .returned (.string (numB v)) ∧ Below w.heap.size w w' := by
  have HV := Lib.hid hv
  clear hv
  go_enter Try.func66, Try.ntmps66
  go_wp2_with fail
  go_loopw [0, 3] (fun nv sv wr => ∃ k V : Nat, k ≤ 8 ∧ V = v / 256 ^ k ∧ nv = .int .u64 (V : Int) ∧ sv = .string (strOfNums (dg k v)) ∧ nl 8 v = k + nl (8 - k) V ∧ Hid (Below w.heap.size w wr)) (fun nv _ _ => (intOf nv).toNat)
  case atStart => exact ⟨0, v, by omega, by simp, rfl, rfl, by simp, Lib.hid (Below.refl _ _)⟩
  case round =>
    obtain ⟨k, V, hk, eV, rfl, rfl, fin, HB⟩ := hrel
    have hs := strOfNums_size (dg k v)
    rw [dg_length] at hs
    obtain ⟨S, eS⟩ : ∃ S, S = strOfNums (dg k v) := ⟨_, rfl⟩
    rw [← eS] at hs ⊢
    by_cases h0 : V = 0
    · subst h0
      rw [nl_zero, Nat.add_zero] at fin
      have cv := one_byte wr (k : Int)
      have hov : ¬ 9223372036854775807 < (strOfNums [(k : Int)]).size + S.size := by rw [strOfNums_size, hs]; simp; omega
      have hN : strOfNums [(k : Int)] ++ S = numB v := by rw [eS, strOf_app]; unfold numB numI; rw [fin]; rfl
      have HN := Lib.hid hN
      have HB2 := Lib.hid (HB.out.alloc HB.out.size (.cells #[.int .u8 (k : Int)] 5))
      have hw : IntKind.u8.wrap (k : Int) = (k : Int) := Go.IntWalk.u8_in _ (by omega)
      generalize strOfNums [(k : Int)] = X at cv hov HN
      clear fin eS eV hN HB
      go_wp2_with fail
      go_ret
      exact ⟨by rw [← HN.out]; rfl, HB2.out⟩
    · have hk8 : k < 8 := v_lt HV.out (by rw [← eV]; exact h0)
      have hpos : 0 < V := by omega
      have hVv : V ≤ v := by rw [eV]; exact Nat.div_le_self _ _
      have hq : IntKind.u64.wrap ((V : Int) / 256) = ((V / 256 : Nat) : Int) := by have := HV.out; rw [IntKind.wrap_u64]; omega
      have cv := one_byte wr ((V : Int) % 256)
      have hov : ¬ 9223372036854775807 < (strOfNums [(V : Int) % 256]).size + S.size := by rw [strOfNums_size, hs]; simp; omega
      have hN : strOfNums [(V : Int) % 256] ++ S = strOfNums (dg (k + 1) v) := by
        rw [eS, strOf_app, dg, ← eV]
        rfl
      have hfin : nl 8 v = (k + 1) + nl (8 - (k + 1)) (V / 256) := by
        have e : 8 - k = (8 - (k + 1)) + 1 := by omega
        rw [e, nl_succ _ h0] at fin
        rw [fin]
        omega
      have HN := Lib.hid hN
      have HF := Lib.hid hfin
      have HE := Lib.hid eV
      have HP := Lib.hid hpos
      have HB2 := Lib.hid (HB.out.alloc HB.out.size (.cells #[.int .u8 ((V : Int) % 256)] 5))
      generalize strOfNums [(V : Int) % 256] = X at cv hov HN
      clear fin eS eV hN HB h0 hfin
      go_wp2_with fail
      go_roundw
      case rel =>
        refine ⟨k + 1, V / 256, by omega, ?_, ?_, ?_, HF.out, HB2⟩
        · rw [HE.out, Nat.pow_succ, ← Nat.div_div_eq_div_mul]
        · have e1 : ((V / 256 : Nat) : Int) = (V : Int) / 256 := by omega
          rw [e1]
        · rw [← HN.out]
      case measure => exact meas2 HP.out
set_option maxHeartbeats 8000000 in
set_option maxRecDepth 100000 in
theorem rtext_c (t : ByteArray) (ht : t.size ≤ 140737488351232) (w : World) :
    Calls Try.prog 65 #[.string t] w fun e w' => e = .returned (.string (textB t)) ∧ Below w.heap.size w w' := by
  have hu : IntKind.u64.wrap (t.size : Int) = (t.size : Int) := by rw [IntKind.wrap_u64]; omega
  have n1 := numB_le t.size
  have hN := Lib.hid (fun w => rnum_c t.size (by omega) w)
  have hT := Lib.hid (show numB t.size ++ t = textB t from rfl)
  obtain ⟨X, eX⟩ : ∃ X, X = numB t.size := ⟨_, rfl⟩
  rw [← eX] at n1 hT hN
  clear eX
  go_enter Try.func65, Try.ntmps65
  go_wp2_with fail
  refine (hN.out _).mono ?_
  rintro e w1 ⟨rfl, hb⟩
  go_wp2_with fail
  go_ret
  exact ⟨by rw [← hT.out]; rfl, hb⟩
end Go.Proofs.Ytdppmkcahfjceaa.Sa
end

