/- The plain law behind FixKnown: what the functions compute answers as the statement says, for every input. No condition. -/
import Derived.Test.YtjiloachlemlcaaDoorPFixKnownx7
import Derived.Laws.BitsAllLaws
import Derived.Test.YtjiloachlemlcaaDoorFixMath
import Derived.Test.YtjiloachlemlcaaDoorBigMath
import Derived.Test.YtjiloachlemlcaaDoorWideMath
namespace Go.Proofs.YtjiloachlemlcaaDoor.Pure
open Go.RowKit Go.Proofs.YtjiloachlemlcaaDoor.PFixKnown Go.Proofs.YtjiloachlemlcaaDoorW.PrintWords Go.Proofs.YtjiloachlemlcaaDoorW.PrintLast
set_option linter.unusedVariables false
set_option linter.unusedSimpArgs false
theorem FKnown_all : ∃ k, carousellaw1_FixKnown.f k = some true := ⟨1000, by decide +kernel⟩
theorem FixKnown : carousellaw1_FixKnown.Pure := by
  exact FKnown_all
end Go.Proofs.YtjiloachlemlcaaDoor.Pure
