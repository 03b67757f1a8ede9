/- The plain half of ShaSums: what the law's function computes answers true. By an AI agent. -/
import Derived.Test.YtefdokolbdnjnaaArgShaSums
import Derived.Test.YtefdokolbdnjnaaSq
import Derived.Test.YtefdokolbdnjnaaSr
import Derived.Lib.Strings
namespace Go.Proofs.Ytefdokolbdnjnaa.Pure
open Go.RowKit Go.Proofs.Ytefdokolbdnjnaa.PShaSums Go.Proofs.YtefdokolbdnjnaaW.PrintWords Go.Proofs.YtefdokolbdnjnaaW.PrintLast
open Go.Proofs.Ytefdokolbdnjnaa.Sm Go.Proofs.Ytefdokolbdnjnaa.Sa
set_option linter.unusedVariables false

theorem shown : selvedgelaw02_shown.f = some true := by
  have h1 : sha_Sum.f (⟨#[97, 98, 99]⟩ : ByteArray) = some (sumB ⟨#[97, 98, 99]⟩) := if_pos (by decide)
  have h2 : sha_Hex.f (sumB ⟨#[97, 98, 99]⟩) = some (hexB (sumB ⟨#[97, 98, 99]⟩)) := if_pos (by rw [sumB_size]; decide)
  unfold selvedgelaw02_shown.f
  rw [h1, Option.bind_some, h2, Option.bind_some, Lib.toList_data, abc_hex]
  rfl
abbrev X3 : ByteArray := (⟨#[48, 49, 50, 51, 52, 53, 54, 55, 56, 57, 97, 98, 99, 100, 101, 102]⟩ : ByteArray)
theorem rhex (s : ByteArray) (hs : s.size ≤ 1048576) : ∀ (m i : Nat), i + m = s.data.toList.length → selvedgeref02_Hex.l0 (m + 1) s X3 (hexI (s.data.toList.take i)) (i : Int) = some (hexB s) := by
  have hl := size_len s
  intro m
  induction m with
  | zero =>
    intro i hi
    have h1 : ¬ ((i : Int) < (s.size : Int)) := by omega
    unfold selvedgeref02_Hex.l0
    rw [if_neg h1, List.take_of_length_le (by omega), hexI_str]
  | succ m ih =>
    intro i hi
    have hlt : i < s.data.toList.length := by omega
    have h1 : ((i : Int) < (s.size : Int)) := by omega
    have hb := (s.data.toList[i]).toNat_lt
    have ed : Int.tdiv (((s.data.toList[i]).toNat : Nat) : Int) 16 % 256 = (((s.data.toList[i]).toNat / 16 : Nat) : Int) := by
      rw [Int.tdiv_eq_ediv_of_nonneg (by omega)]; omega
    have em : Int.tmod (((s.data.toList[i]).toNat : Nat) : Int) 16 = (((s.data.toList[i]).toNat % 16 : Nat) : Int) := by
      rw [Int.tmod_eq_emod_of_nonneg (by omega)]; omega
    have l3 : (X3.size : Int) = 16 := rfl
    unfold selvedgeref02_Hex.l0
    rw [if_pos h1, if_pos (by omega), bt_nat s i hlt, ed, em, if_pos (by omega), if_pos (by omega), if_pos (by omega), if_pos (by omega), Option.bind_some, table _ (by omega), table _ (by omega), if_pos (by rw [hexI_length, List.length_take, List.length_cons, List.length_cons, List.length_nil]; omega), hexI_snoc _ _ hlt, wrap64_in _ (by omega)]
    exact ih (i + 1) (by omega)
theorem ShaSums : selvedgelaw02_ShaSums.Pure := by
  intro s hs hn
  simp only at hn
  have h1 : sha_Sum.f s = some (sumB s) := if_pos (by omega)
  have h2 : selvedgeref02_Sum.f s = some (sumB s) := if_pos (by omega)
  have h3 : sha_Hex.f s = some (hexB s) := if_pos (by omega)
  have h4 : selvedgeref02_Hex.f (s.data.toList.length + 1) s = some (hexB s) := rhex s (by omega) s.data.toList.length 0 (by omega)
  refine ⟨s.data.toList.length + 1, ?_⟩
  unfold selvedgelaw02_ShaSums.f
  rw [shown, Option.bind_some, if_pos rfl, h1, Option.bind_some, h2, Option.bind_some, if_pos rfl, h3, Option.bind_some, h4, Option.bind_some, beq_self_eq_true]

end Go.Proofs.Ytefdokolbdnjnaa.Pure
