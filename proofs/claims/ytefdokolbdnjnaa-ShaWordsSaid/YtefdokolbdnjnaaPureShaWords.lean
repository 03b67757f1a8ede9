/- The plain half of ShaWords. By an AI agent. -/
import Derived.Test.YtefdokolbdnjnaaArgShaWords
namespace Go.Proofs.Ytefdokolbdnjnaa.Pure
open Go.RowKit Go.Proofs.Ytefdokolbdnjnaa.PShaWords

theorem ShaWords : selvedgelaw02_ShaWords.Pure := rfl

end Go.Proofs.Ytefdokolbdnjnaa.Pure
