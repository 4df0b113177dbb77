/- The plain law behind OptKnown: what the functions compute answers as the statement says, for every input. No condition. -/
import Derived.Test.YtaanhfcioemekaaPOptKnownx8
import Derived.Laws.BitsAllLaws
import Derived.Test.YtaanhfcioemekaaWideMath
import Derived.Test.YtaanhfcioemekaaFixMath
import Derived.Test.YtaanhfcioemekaaBigMath
namespace Go.Proofs.Ytaanhfcioemekaa.Pure
open Go.RowKit Go.Proofs.Ytaanhfcioemekaa.POptKnown Go.Proofs.YtaanhfcioemekaaW.PrintWords Go.Proofs.YtaanhfcioemekaaW.PrintLast
set_option linter.unusedVariables false
set_option linter.unusedSimpArgs false
theorem OKnown_all : ∃ k, carousellaw15_OptKnown.f k = some true := ⟨200, by decide +kernel⟩
theorem OptKnown : carousellaw15_OptKnown.Pure := by
  exact OKnown_all
end Go.Proofs.Ytaanhfcioemekaa.Pure
