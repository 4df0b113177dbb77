/- The plain law behind ConvKnown: what the functions compute answers as the statement says, for every input. No condition. -/
import Derived.Test.YtcipfhlcgnomaaaPConvKnownx11
import Derived.Laws.BitsAllLaws
import Derived.Test.YtcipfhlcgnomaaaFixMath
import Derived.Test.YtcipfhlcgnomaaaShapeMath
import Derived.Test.YtcipfhlcgnomaaaBigMath
import Derived.Test.YtcipfhlcgnomaaaWideMath
namespace Go.Proofs.Ytcipfhlcgnomaaa.Pure
open Go.RowKit Go.Proofs.Ytcipfhlcgnomaaa.PConvKnown Go.Proofs.YtcipfhlcgnomaaaW.PrintWords Go.Proofs.YtcipfhlcgnomaaaW.PrintLast
set_option linter.unusedVariables false
set_option linter.unusedSimpArgs false

theorem ConvKnown : carousellaw8_ConvKnown.Pure := by
  exact ⟨90000010, by decide +kernel⟩
end Go.Proofs.Ytcipfhlcgnomaaa.Pure
