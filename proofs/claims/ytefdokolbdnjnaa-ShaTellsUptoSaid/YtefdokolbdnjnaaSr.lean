import Derived.Test.YtefdokolbdnjnaaSq
import Derived.Test.YtefdokolbdnjnaaWWords
/-
  Plain laws of bytes in digits: they tell the bytes; each two tell one. No program. By an AI agent.
-/
namespace Go.Proofs.Ytefdokolbdnjnaa.Sm
open Go Go.RowKit Go.Proofs.YtefdokolbdnjnaaW.PrintWords

theorem wrap64_in (n : Int) (h : -9223372036854775808 ≤ n ∧ n ≤ 9223372036854775807) : wrap64 n = n := by unfold wrap64; omega
theorem hex_pair : ∀ m n : Fin 256, digit (m.val / 16) = digit (n.val / 16) → digit (m.val % 16) = digit (n.val % 16) → m = n := by
  intro m n h1 h2
  have key : ∀ x y : Fin 16, digit x.val = digit y.val → x = y := by decide +kernel
  have e1 := key ⟨m.val / 16, by omega⟩ ⟨n.val / 16, by omega⟩ h1
  have e2 := key ⟨m.val % 16, by omega⟩ ⟨n.val % 16, by omega⟩ h2
  have e1 := congrArg Fin.val e1
  have e2 := congrArg Fin.val e2
  simp only at e1 e2
  ext
  omega
theorem hexL_inj : ∀ l m : List UInt8, hexL l = hexL m → l = m
  | [], [], _ => rfl
  | [], b :: m, h => by simp [hexL] at h
  | a :: l, [], h => by simp [hexL] at h
  | a :: l, b :: m, h => by
    simp only [hexL, List.flatMap_cons, List.cons_append, List.nil_append, List.cons.injEq] at h
    obtain ⟨h1, h2, h3⟩ := h
    have := hex_pair ⟨a.toNat, a.toNat_lt⟩ ⟨b.toNat, b.toNat_lt⟩ h1 h2
    have hab : a = b := UInt8.toNat_inj.1 (congrArg Fin.val this)
    rw [hab, hexL_inj l m h3]
theorem hexB_apart (a b : ByteArray) : (((hexB a).toList == (hexB b).toList) == (a.toList == b.toList)) = true := by
  rw [Lib.toList_data, Lib.toList_data, Lib.toList_data, Lib.toList_data]
  show ((hexL a.data.toList == hexL b.data.toList) == (a.data.toList == b.data.toList)) = true
  rw [beq_iff_eq, Bool.eq_iff_iff, beq_iff_eq, beq_iff_eq]
  exact ⟨hexL_inj _ _, fun h => by rw [h]⟩

theorem bt_nat (s : ByteArray) (i : Nat) (h : i < s.data.toList.length) : bt s (i : Int) = ((s.data.toList[i].toNat : Nat) : Int) := by
  unfold bt
  have h' : i < s.size := by rw [size_len] at h; exact h
  simp only [Int.toNat_natCast]
  rw [dif_pos h']
  rfl
theorem hexB_bt (s : ByteArray) (i : Nat) (h : i < s.data.toList.length) : bt (hexB s) ((2 * i : Nat) : Int) = ((digit (s.data.toList[i].toNat / 16)).toNat : Int) ∧ bt (hexB s) ((2 * i + 1 : Nat) : Int) = ((digit (s.data.toList[i].toNat % 16)).toNat : Int) := by
  have hl : (hexB s).data.toList = hexL s.data.toList := rfl
  have key : ∀ (l : List UInt8) (i : Nat) (h : i < l.length), (hexL l)[2 * i]? = some (digit (l[i].toNat / 16)) ∧ (hexL l)[2 * i + 1]? = some (digit (l[i].toNat % 16)) := by
    intro l
    induction l with
    | nil => intro i h; simp at h
    | cons a l ih =>
      intro i h
      cases i with
      | zero => exact ⟨rfl, rfl⟩
      | succ i =>
        have := ih i (by simpa using h)
        have e : hexL (a :: l) = digit (a.toNat / 16) :: digit (a.toNat % 16) :: hexL l := rfl
        rw [e, show 2 * (i + 1) = 2 * i + 1 + 1 from by omega, show 2 * i + 1 + 1 + 1 = (2 * i + 1) + 1 + 1 from rfl, List.getElem?_cons_succ, List.getElem?_cons_succ, List.getElem?_cons_succ, List.getElem?_cons_succ, List.getElem_cons_succ]
        exact this
  obtain ⟨k1, k2⟩ := key s.data.toList i h
  rw [← hl] at k1 k2
  obtain ⟨l1, g1⟩ := List.getElem?_eq_some_iff.1 k1
  obtain ⟨l2, g2⟩ := List.getElem?_eq_some_iff.1 k2
  rw [bt_nat _ _ l1, bt_nat _ _ l2, g1, g2]
  exact ⟨rfl, rfl⟩
theorem digit_cases (d : Nat) (h : d < 16) : (48 ≤ ((digit d).toNat : Int) ∧ ((digit d).toNat : Int) ≤ 57 ∧ (((digit d).toNat : Int) - 48) % 256 = d) ∨ (¬ ((digit d).toNat : Int) ≤ 57 ∧ 97 ≤ ((digit d).toNat : Int) ∧ ((digit d).toNat : Int) ≤ 102 ∧ (((digit d).toNat : Int) - 97) % 256 + 10 = d) := by
  have : ∀ x : Fin 16, (48 ≤ ((digit x.val).toNat : Int) ∧ ((digit x.val).toNat : Int) ≤ 57 ∧ (((digit x.val).toNat : Int) - 48) % 256 = (x.val : Int)) ∨ (¬ ((digit x.val).toNat : Int) ≤ 57 ∧ 97 ≤ ((digit x.val).toNat : Int) ∧ ((digit x.val).toNat : Int) ≤ 102 ∧ (((digit x.val).toNat : Int) - 97) % 256 + 10 = (x.val : Int)) := by decide +kernel
  exact this ⟨d, h⟩
theorem table (d : Nat) (h : d < 16) : bt (⟨#[48, 49, 50, 51, 52, 53, 54, 55, 56, 57, 97, 98, 99, 100, 101, 102]⟩ : ByteArray) (d : Int) = ((digit d).toNat : Int) := by
  have : ∀ x : Fin 16, bt (⟨#[48, 49, 50, 51, 52, 53, 54, 55, 56, 57, 97, 98, 99, 100, 101, 102]⟩ : ByteArray) ((x.val : Nat) : Int) = ((digit x.val).toNat : Int) := by decide +kernel
  exact this ⟨d, h⟩
def hexI (l : List UInt8) : List Int := (hexL l).map fun b => ((b.toNat : Nat) : Int)
theorem hexI_length (l : List UInt8) : (hexI l).length = 2 * l.length := by rw [hexI, List.length_map, hexL_len]
theorem hexI_str (s : ByteArray) : strOfNums (hexI s.data.toList) = hexB s := by
  unfold strOfNums hexI hexB
  rw [List.map_map]
  congr 2
  conv => rhs; rw [← List.map_id (hexL s.data.toList)]
  apply List.map_congr_left
  intro b _
  simp
theorem hexI_snoc (l : List UInt8) (i : Nat) (h : i < l.length) : hexI (l.take i) ++ [((digit (l[i].toNat / 16)).toNat : Int), ((digit (l[i].toNat % 16)).toNat : Int)] = hexI (l.take (i + 1)) := by
  unfold hexI hexL
  rw [List.take_succ_eq_append_getElem h, List.flatMap_append, List.map_append]
  rfl
end Go.Proofs.Ytefdokolbdnjnaa.Sm
