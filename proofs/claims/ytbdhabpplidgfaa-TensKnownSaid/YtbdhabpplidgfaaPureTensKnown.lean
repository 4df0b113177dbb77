/- The plain law behind TensKnown: what the functions compute answers as the statement says, for every input. No condition. -/
import Derived.Test.YtbdhabpplidgfaaPTensKnownx10
import Derived.Laws.BitsAllLaws
import Derived.Test.YtbdhabpplidgfaaFixMath
import Derived.Test.YtbdhabpplidgfaaShapeMath
import Derived.Test.YtbdhabpplidgfaaBigMath
import Derived.Test.YtbdhabpplidgfaaWideMath
namespace Go.Proofs.Ytbdhabpplidgfaa.Pure
open Go.RowKit Go.Proofs.Ytbdhabpplidgfaa.PTensKnown Go.Proofs.YtbdhabpplidgfaaW.PrintWords Go.Proofs.YtbdhabpplidgfaaW.PrintLast
set_option linter.unusedVariables false
set_option linter.unusedSimpArgs false

theorem TensKnown : carousellaw6_TensKnown.Pure := by
  exact ⟨40000, by decide +kernel⟩
end Go.Proofs.Ytbdhabpplidgfaa.Pure
