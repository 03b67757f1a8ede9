/- The plain half of ShaTurns. By an AI agent. -/
import Derived.Test.YtefdokolbdnjnaaArgShaTurns
namespace Go.Proofs.Ytefdokolbdnjnaa.Pure
open Go.RowKit Go.Proofs.Ytefdokolbdnjnaa.PShaTurns

theorem ShaTurns : selvedgelaw02_ShaTurns.Pure := by
  intro s hs
  exact if_pos hs

end Go.Proofs.Ytefdokolbdnjnaa.Pure
