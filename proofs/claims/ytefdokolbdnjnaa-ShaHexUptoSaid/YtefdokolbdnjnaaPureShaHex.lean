/- The plain half of ShaHex: what the law's function computes answers true. By an AI agent. -/
import Derived.Test.YtefdokolbdnjnaaArgShaHex
import Derived.Test.YtefdokolbdnjnaaSq
import Derived.Test.YtefdokolbdnjnaaSr
import Derived.Lib.Strings
namespace Go.Proofs.Ytefdokolbdnjnaa.Pure
open Go.RowKit Go.Proofs.Ytefdokolbdnjnaa.PShaHex Go.Proofs.YtefdokolbdnjnaaW.PrintWords Go.Proofs.YtefdokolbdnjnaaW.PrintLast
open Go.Proofs.Ytefdokolbdnjnaa.Sm Go.Proofs.Ytefdokolbdnjnaa.Sa
set_option linter.unusedVariables false

theorem shown : selvedgelaw02_shown.f = some true := by
  have h1 : sha_Sum.f (⟨#[97, 98, 99]⟩ : ByteArray) = some (sumB ⟨#[97, 98, 99]⟩) := if_pos (by decide)
  have h2 : sha_Hex.f (sumB ⟨#[97, 98, 99]⟩) = some (hexB (sumB ⟨#[97, 98, 99]⟩)) := if_pos (by rw [sumB_size]; decide)
  unfold selvedgelaw02_shown.f
  rw [h1, Option.bind_some, h2, Option.bind_some, Lib.toList_data, abc_hex]
  rfl
theorem ShaHex : selvedgelaw02_ShaHex.Pure := by
  intro a b ha hb hs
  simp only at hs
  have h1 : sha_Hex.f a = some (hexB a) := if_pos (by omega)
  have h2 : sha_Hex.f b = some (hexB b) := if_pos (by omega)
  have h3 : ((hexB a).size : Int) = wrap64 (2 * (a.size : Int)) := by rw [hexB_size, wrap64_in _ (by omega)]; omega
  unfold selvedgelaw02_ShaHex.f
  rw [shown, Option.bind_some, h1, Option.bind_some, h2, Option.bind_some, if_pos rfl, if_pos h3, hexB_apart]

end Go.Proofs.Ytefdokolbdnjnaa.Pure
