/- The plain law behind WideKnown: what the functions compute answers as the statement says, for every input. No condition. -/
import Derived.Test.YtalghnbolnimiaaPWideKnownx7
import Derived.Laws.BitsAllLaws
import Derived.Test.YtalghnbolnimiaaWideMath
import Derived.Test.YtalghnbolnimiaaFixMath
import Derived.Test.YtalghnbolnimiaaBigMath
namespace Go.Proofs.Ytalghnbolnimiaa.Pure
open Go.RowKit Go.Proofs.Ytalghnbolnimiaa.PWideKnown Go.Proofs.YtalghnbolnimiaaW.PrintWords Go.Proofs.YtalghnbolnimiaaW.PrintLast
set_option linter.unusedVariables false
set_option linter.unusedSimpArgs false

theorem WideKnown : carousellaw2_WideKnown.Pure := by
  exact ⟨1000, by decide +kernel⟩
end Go.Proofs.Ytalghnbolnimiaa.Pure
