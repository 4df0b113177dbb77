/- The plain law behind ActKnown: what the functions compute answers as the statement says, for every input. No condition. -/
import Derived.Test.YtdamllanlligbaaPActKnownx7
import Derived.Laws.BitsAllLaws
import Derived.Test.YtdamllanlligbaaFixMath
import Derived.Test.YtdamllanlligbaaShapeMath
import Derived.Test.YtdamllanlligbaaBigMath
namespace Go.Proofs.Ytdamllanlligbaa.Pure
open Go.RowKit Go.Proofs.Ytdamllanlligbaa.PActKnown Go.Proofs.YtdamllanlligbaaW.PrintWords Go.Proofs.YtdamllanlligbaaW.PrintLast
set_option linter.unusedVariables false
set_option linter.unusedSimpArgs false
theorem AKnown_all : ∃ k, carousellaw9_ActKnown.f k = some true := ⟨60, by decide +kernel⟩
theorem ActKnown : carousellaw9_ActKnown.Pure := by
  exact AKnown_all
end Go.Proofs.Ytdamllanlligbaa.Pure
