import Derived.Test.YtefdokolbdnjnaaBd
import Derived.Test.YtefdokolbdnjnaaShelf
/-
  sha.Hex walked: bytes in digits. By an AI agent.
-/
namespace Go.Proofs.Ytefdokolbdnjnaa.Sa
open Go.Proofs.Ytefdokolbdnjnaa.Sm
open Go.RowKit Go.Proofs.YtefdokolbdnjnaaW.PrintWords Go.Proofs.YtefdokolbdnjnaaW.PrintLast Go.Proofs.YtefdokolbdnjnaaW.PrintMore
set_option linter.unusedVariables false
set_option linter.unusedSimpArgs false

theorem run_digit (v : Int) (h0 : 0 ≤ v) (h1 : v < 16) (w : World) : (Instr.index 9 (.string ⟨#[48, 49, 50, 51, 52, 53, 54, 55, 56, 57, 97, 98, 99, 100, 101, 102]⟩) (.int .u8 v)).run Try.prog w = .ok (.int .u8 ((digit v.toNat).toNat : Int)) w := by
  have h : v = 0 ∨ v = 1 ∨ v = 2 ∨ v = 3 ∨ v = 4 ∨ v = 5 ∨ v = 6 ∨ v = 7 ∨ v = 8 ∨ v = 9 ∨ v = 10 ∨ v = 11 ∨ v = 12 ∨ v = 13 ∨ v = 14 ∨ v = 15 := by omega
  rw [run_index_string w 9 _ .u8 v Try.underlying9, dif_pos ⟨h0, by
    show v < ((16 : Nat) : Int)
    omega⟩]
  rcases h with rfl | rfl | rfl | rfl | rfl | rfl | rfl | rfl | rfl | rfl | rfl | rfl | rfl | rfl | rfl | rfl <;> rfl
theorem byteCells_snoc2 (l : List UInt8) (a b : UInt8) : Lib.byteCells l ++ [.int .u8 (a.toNat : Int)] ++ [.int .u8 (b.toNat : Int)] = Lib.byteCells (l ++ [a, b]) := by
  simp [Lib.byteCells]
theorem hexL_length (l : List UInt8) : (hexL l).length = 2 * l.length := by
  induction l with
  | nil => rfl
  | cons x l ih => simp only [hexL, List.flatMap_cons, List.length_append, List.length_cons, List.length_nil] at ih ⊢; omega
theorem hexL_take (s : ByteArray) (k : Nat) (h : k < s.size) : hexL (s.data.toList.take (k + 1)) = hexL (s.data.toList.take k) ++ [digit ((byt s k / 16).toNat), digit ((byt s k % 16).toNat)] := by
  rw [List.take_succ_eq_append_getElem (by simpa using h)]
  unfold hexL
  rw [List.flatMap_append]
  congr 1
  have e : byt s k = ((s.data.toList[k]'(by simpa using h)).toNat : Int) := by
    unfold byt
    rw [List.getD_eq_getElem?_getD, List.getElem?_eq_getElem (by simpa using h)]
    rfl
  rw [e]
  generalize s.data.toList[k]'(by simpa using h) = x
  have e1 : ((x.toNat : Int) / 16).toNat = x.toNat / 16 := by omega
  have e2 : ((x.toNat : Int) % 16).toNat = x.toNat % 16 := by omega
  rw [e1, e2]
  simp

set_option maxHeartbeats 8000000 in
set_option maxRecDepth 100000 in
theorem hex_c (s : ByteArray) (hs : s.size ≤ 70368744177664) (w : World) :
    Calls Try.prog 33 #[.string s] w fun e w' => e = .returned (.string (hexB s)) ∧ Below w.heap.size w w' := by
  go_enter Try.func33, Try.ntmps33
  go_wp2_with fail
  go_loopw [7] (fun i wr => ∃ k : Nat, k ≤ s.size ∧ i = .int .i64 k ∧ Hid (Lib.IsBuilder BT BE w.heap.size w.heap.size (Lib.byteCells (hexL (s.data.toList.take k))) wr) ∧ Hid (Below w.heap.size w wr)) (fun i _ => s.size - (intOf i).toNat)
  case atStart => exact ⟨0, Nat.zero_le _, rfl, Lib.hid (Lib.fresh_isBuilder _ _ _), Lib.hid ((Below.refl _ _).alloc (Nat.le_refl _) _)⟩
  case round =>
    obtain ⟨k, hk, rfl, HI, HB⟩ := hrel
    have hl : (hexL (s.data.toList.take k)).length ≤ 2 * k := by rw [hexL_length]; have := List.length_take_le k s.data.toList; omega
    by_cases hlt : k < s.size
    · have r := fun w => run_byt s k hlt (k : Int) rfl w
      have br := byt_range s k
      have h16 : (0 : Int) ≤ byt s k / 16 ∧ byt s k / 16 < 16 := by omega
      have d1 := fun w => run_digit (byt s k / 16) h16.1 h16.2 w
      have d2 := fun w => run_digit (byt s k % 16) (by omega) (by omega) w
      have a15 : bits BinOp.and IntKind.u8 (byt s k) 15 = byt s k % 16 := u8_and15 _ (by omega) (by omega)
      have HT := Lib.hid (hexL_take s k hlt)
      have HL := Lib.hid hl
      clear hl h16
      go_wp2_with fail
      refine (write_byte w.heap.size w.heap.size _ _ _ HI.out (by have := HL.out; rw [Lib.byteCells_length]; omega) HB.out.size).mono ?_
      rintro e w1 ⟨rfl, hi, hb⟩
      have HI1 := Lib.hid (hi : Lib.BuilderAt BT BE w.heap.size w.heap.size _ _ w1)
      have HB1 := Lib.hid (HB.out.trans hb)
      clear hi hb HI HB
      go_wp2_with fail
      refine (write_byte w.heap.size w.heap.size _ _ _ (Or.inr HI1.out) (by have := HL.out; rw [List.length_append, Lib.byteCells_length]; simp; omega) HB1.out.size).mono ?_
      rintro e w2 ⟨rfl, hi, hb⟩
      have HI2 := Lib.hid (hi : Lib.BuilderAt BT BE w.heap.size w.heap.size _ _ w2)
      have HB2 := Lib.hid (HB1.out.trans hb)
      clear hi hb HI1 HB1
      go_wp2
      go_roundw
      case rel => exact ⟨k + 1, by omega, by go_num, Lib.hid (Or.inr (by rw [HT.out, ← byteCells_snoc2]; exact HI2.out)), HB2⟩
      case measure => simp [intOf]; omega
    · obtain rfl : k = s.size := by omega
      have HT : s.data.toList.take s.size = s.data.toList := List.take_of_length_le (by simp)
      rw [HT] at HI
      clear HT hl
      go_wp2_with fail
      refine (Try.Builder_String_any w.heap.size w.heap.size _ _ HI.out HB.out.size).mono ?_
      rintro e w1 ⟨rfl, hb⟩
      have HB1 := Lib.hid (HB.out.trans hb)
      clear hb
      go_wp2
      go_ret
      exact ⟨rfl, HB1.out⟩
end Go.Proofs.Ytefdokolbdnjnaa.Sa
