/- The plain half of ShaPads: what the law's function computes answers true. By an AI agent. -/
import Derived.Test.YtefdokolbdnjnaaArgShaPads
import Derived.Test.YtefdokolbdnjnaaSq
import Derived.Lib.Strings
namespace Go.Proofs.Ytefdokolbdnjnaa.Pure
open Go.RowKit Go.Proofs.Ytefdokolbdnjnaa.PShaPads Go.Proofs.YtefdokolbdnjnaaW.PrintWords Go.Proofs.YtefdokolbdnjnaaW.PrintLast
open Go.Proofs.Ytefdokolbdnjnaa.Sm Go.Proofs.Ytefdokolbdnjnaa.Sa
set_option linter.unusedVariables false

theorem shown : selvedgelaw02_shown.f = some true := by
  have h1 : sha_Sum.f (⟨#[97, 98, 99]⟩ : ByteArray) = some (sumB ⟨#[97, 98, 99]⟩) := if_pos (by decide)
  have h2 : sha_Hex.f (sumB ⟨#[97, 98, 99]⟩) = some (hexB (sumB ⟨#[97, 98, 99]⟩)) := if_pos (by rw [sumB_size]; decide)
  unfold selvedgelaw02_shown.f
  rw [h1, Option.bind_some, h2, Option.bind_some, Lib.toList_data, abc_hex]
  rfl
theorem ShaPads : selvedgelaw02_ShaPads.Pure := by
  intro s hs
  have h1 : sha_Pad.f s = some (padB s) := if_pos hs
  have h2 : selvedgeref02_Pad.f s = some (padB s) := if_pos hs
  unfold selvedgelaw02_ShaPads.f
  rw [shown, Option.bind_some, h1, Option.bind_some, if_pos rfl, h2, Option.bind_some, if_pos rfl]
  have h := padB_64 s
  congr 1
  rw [beq_iff_eq]
  omega

end Go.Proofs.Ytefdokolbdnjnaa.Pure
