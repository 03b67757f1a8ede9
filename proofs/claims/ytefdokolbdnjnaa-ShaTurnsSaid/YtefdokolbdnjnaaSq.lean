import Derived.Test.YtefdokolbdnjnaaSm
import Derived.Lib.Strings
/-
  Plain laws of the digest: an example, sizes, what tells texts apart. No program. By an AI agent.
-/
namespace Go.Proofs.Ytefdokolbdnjnaa.Sm
open Go Go.RowKit

theorem bytes4_len (l : List Int) : (l.flatMap bytes4).length = 4 * l.length := by
  induction l with
  | nil => rfl
  | cons x l ih => simp only [List.flatMap_cons, List.length_append, ih, List.length_cons]; simp [bytes4]; omega
theorem sumB_size (s : ByteArray) : (sumB s).size = 32 := by
  show ((sumS s).list.flatMap bytes4).toArray.size = 32
  rw [List.size_toArray, bytes4_len]
  rfl
theorem hexL_len (l : List UInt8) : (hexL l).length = 2 * l.length := by
  induction l with
  | nil => rfl
  | cons x l ih => simp only [hexL, List.flatMap_cons, List.length_append, List.length_cons, List.length_nil] at ih ⊢; omega
theorem hexB_size (s : ByteArray) : (hexB s).size = 2 * s.size := by
  show (hexL s.data.toList).toArray.size = _
  rw [List.size_toArray, hexL_len, Array.length_toList]
  rfl
theorem abc_hex : (hexB (sumB ⟨#[97, 98, 99]⟩)).data.toList = [98, 97, 55, 56, 49, 54, 98, 102, 56, 102, 48, 49, 99, 102, 101, 97, 52, 49, 52, 49, 52, 48, 100, 101, 53, 100, 97, 101, 50, 50, 50, 51, 98, 48, 48, 51, 54, 49, 97, 51, 57, 54, 49, 55, 55, 97, 57, 99, 98, 52, 49, 48, 102, 102, 54, 49, 102, 50, 48, 48, 49, 53, 97, 100] := by decide +kernel
theorem lenBytes_length (n : Nat) : (lenBytes n).length = 8 := by simp [lenBytes]
theorem lenBytes_eq (n : Nat) : lenBytes n = [UInt8.ofNat (n * 8 / 72057594037927936), UInt8.ofNat (n * 8 / 281474976710656), UInt8.ofNat (n * 8 / 1099511627776), UInt8.ofNat (n * 8 / 4294967296), UInt8.ofNat (n * 8 / 16777216), UInt8.ofNat (n * 8 / 65536), UInt8.ofNat (n * 8 / 256), UInt8.ofNat (n * 8)] := by
  simp [lenBytes, List.range, List.range.loop]
theorem ofNat_mod {a b : Nat} (h : UInt8.ofNat a = UInt8.ofNat b) : a % 256 = b % 256 := by
  have := congrArg UInt8.toNat h
  simpa using this
theorem lenBytes_inj {n m : Nat} (hn : n ≤ 140737488355328) (hm : m ≤ 140737488355328) (h : lenBytes n = lenBytes m) : n = m := by
  rw [lenBytes_eq, lenBytes_eq] at h
  simp only [List.cons.injEq, and_true] at h
  obtain ⟨h7, h6, h5, h4, h3, h2, h1, h0⟩ := h
  have e6 := ofNat_mod h6
  have e5 := ofNat_mod h5
  have e4 := ofNat_mod h4
  have e3 := ofNat_mod h3
  have e2 := ofNat_mod h2
  have e1 := ofNat_mod h1
  have e0 := ofNat_mod h0
  clear h7 h6 h5 h4 h3 h2 h1 h0
  have d1 : n * 8 % 65536 = m * 8 % 65536 := by omega
  have d2 : n * 8 % 16777216 = m * 8 % 16777216 := by clear e0 e1; omega
  have d3 : n * 8 % 4294967296 = m * 8 % 4294967296 := by clear e0 e1 e2 d1; omega
  have d4 : n * 8 % 1099511627776 = m * 8 % 1099511627776 := by clear e0 e1 e2 e3 d1 d2; omega
  have d5 : n * 8 % 281474976710656 = m * 8 % 281474976710656 := by clear e0 e1 e2 e3 e4 d1 d2 d3; omega
  have d6 : n * 8 % 72057594037927936 = m * 8 % 72057594037927936 := by clear e0 e1 e2 e3 e4 e5 d1 d2 d3 d4; omega
  omega
theorem padL_length (s : ByteArray) : (padL s).length = s.data.toList.length + 1 + (119 - s.size % 64) % 64 + 8 := by
  simp only [padL, List.length_append, List.length_cons, List.length_replicate, lenBytes_length]
  omega
theorem size_len (s : ByteArray) : s.data.toList.length = s.size := by rw [Array.length_toList]; rfl
theorem padL_last (s : ByteArray) : (padL s).drop ((padL s).length - 8) = lenBytes s.size := by
  rw [padL_length]
  unfold padL
  rw [← List.cons_append, ← List.append_assoc]
  rw [List.drop_append_of_le_length (by simp; omega)]
  rw [List.drop_eq_nil_of_le (by simp; omega)]
  rfl
theorem padL_inj {a b : ByteArray} (ha : a.size ≤ 140737488355328) (hb : b.size ≤ 140737488355328) (h : padL a = padL b) : a.data.toList = b.data.toList := by
  have h1 := padL_last a
  rw [h, padL_last b] at h1
  have hs : b.size = a.size := lenBytes_inj hb ha h1
  have h2 : (padL a).take a.size = (padL b).take a.size := by rw [h]
  unfold padL at h2
  rw [List.take_left' (size_len a), ← hs, List.take_left' (size_len b)] at h2
  exact h2
theorem padB_apart {a b : ByteArray} (ha : a.size ≤ 140737488355328) (hb : b.size ≤ 140737488355328) : (((padB a).toList == (padB b).toList) == (a.toList == b.toList)) = true := by
  rw [Lib.toList_data, Lib.toList_data, Lib.toList_data, Lib.toList_data]
  show ((padL a == padL b) == (a.data.toList == b.data.toList)) = true
  rw [beq_iff_eq, Bool.eq_iff_iff, beq_iff_eq, beq_iff_eq]
  constructor
  · exact padL_inj ha hb
  · intro h
    have e : a = b := by
      apply ByteArray.ext
      exact Array.ext' h
    rw [e]
end Go.Proofs.Ytefdokolbdnjnaa.Sm
