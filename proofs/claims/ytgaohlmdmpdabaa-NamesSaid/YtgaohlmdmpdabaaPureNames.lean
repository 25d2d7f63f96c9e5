/- vendmeterlaw.Names returns true: each error number is its place in the list, and the two pairs of lists of limits are the same. No condition. -/
import Derived.Test.YtgaohlmdmpdabaaPNamesx1
namespace Go.Proofs.Ytgaohlmdmpdabaa.Pure
open Go.RowKit Go.Proofs.Ytgaohlmdmpdabaa.PNames Go.Proofs.YtgaohlmdmpdabaaW.PrintWords Go.Proofs.YtgaohlmdmpdabaaW.PrintLast

theorem Names : vendmeterlaw_Names.Pure := ⟨60, by decide +kernel⟩

end Go.Proofs.Ytgaohlmdmpdabaa.Pure
