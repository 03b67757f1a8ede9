/- The plain half of ShaApart: what the law's function computes answers true. By an AI agent. -/
import Derived.Test.YtefdokolbdnjnaaArgShaApart
import Derived.Test.YtefdokolbdnjnaaSq
import Derived.Lib.Strings
namespace Go.Proofs.Ytefdokolbdnjnaa.Pure
open Go.RowKit Go.Proofs.Ytefdokolbdnjnaa.PShaApart Go.Proofs.YtefdokolbdnjnaaW.PrintWords Go.Proofs.YtefdokolbdnjnaaW.PrintLast
open Go.Proofs.Ytefdokolbdnjnaa.Sm Go.Proofs.Ytefdokolbdnjnaa.Sa
set_option linter.unusedVariables false

theorem shown : selvedgelaw02_shown.f = some true := by
  have h1 : sha_Sum.f (⟨#[97, 98, 99]⟩ : ByteArray) = some (sumB ⟨#[97, 98, 99]⟩) := if_pos (by decide)
  have h2 : sha_Hex.f (sumB ⟨#[97, 98, 99]⟩) = some (hexB (sumB ⟨#[97, 98, 99]⟩)) := if_pos (by rw [sumB_size]; decide)
  unfold selvedgelaw02_shown.f
  rw [h1, Option.bind_some, h2, Option.bind_some, Lib.toList_data, abc_hex]
  rfl
theorem ShaApart : selvedgelaw02_ShaApart.Pure := by
  intro a b ha hb
  have h1 : sha_Pad.f a = some (padB a) := if_pos ha
  have h2 : sha_Pad.f b = some (padB b) := if_pos hb
  unfold selvedgelaw02_ShaApart.f
  rw [shown, Option.bind_some, if_pos rfl, h1, Option.bind_some, h2, Option.bind_some, padB_apart (Nat.le_trans ha (by decide)) (Nat.le_trans hb (by decide))]

end Go.Proofs.Ytefdokolbdnjnaa.Pure
