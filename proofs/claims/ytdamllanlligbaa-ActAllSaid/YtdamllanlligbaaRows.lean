/-
  No cell of these rows narrows 'for every input' (looked for: loops, veiled, ifaces, maps, wideKeys, modest, calm, conditions, laid).
  DERIVED. THE GIVEN ROWS OF THIS SEAT. 7 by the template 'for every input the law returns true; each argument reads behind the call as it read before'; 0 by the template 'total and deterministic' (their statements: YtdamllanlligbaaTotals.lean).
  GIVEN WITH THE SEED: the statements are not yours to turn. If you find one false, say at which input.
  Laid BY PROGRAM, IN A SANDBOX (cutbox-rows.mjs): the forced cells as the released guide's own fill.sh prints them over the translation 797b3ffbfc0d375e… (all of the seat's roots in one cut). By AI agents, Wed Nov 11 2026. No macro, syntax, notation, axiom, sorry.
-/
import Derived.Test.YtdamllanlligbaaChecked
import GoSem.Claim
import GoSem.ClaimJoined
import GoSem.ClaimMapViews
import Derived.JoinedTies
import Derived.KernelRfl
namespace Go.Proofs.Ytdamllanlligbaa
/- THE CELL 'sum', in the pinned program and in every row, IS THE sha256 OF THE DUMP (.gsa) THAT YtdamllanlligbaaProg.lean LOADS. Nothing in Lean hashes anything: it is a label: what it is worth is what the hold of that sum in a sandbox is worth. -/
noncomputable def Try.pinned : Pinned := { name := "ytdamllanlligbaa", sum := "797b3ffbfc0d375ea33e49d67a292ef63a6da6a176d536209d16acdae554b9bb", checked := Try.checked }
namespace Rows
def none {H : Type} : Left H := { results := [], args := [] }

/-- 'carousellaw9.ActBends': WHATEVER THE INPUT: true; the input reads as it did. -/
def actBendsSpec : ChangeSpec := { name := "actBends", fn := fun _ => fun
  | [d1, d2] => { results := [.lit (.bool true)], args := [d1, d2] }
  | _ => none }
def actBendsRow : OpenClaim := { program := "ytdamllanlligbaa", sum := "797b3ffbfc0d375ea33e49d67a292ef63a6da6a176d536209d16acdae554b9bb", func := "carousel/carousellaw9.ActBends", spec := "actBends", inPlace := ["math/bits.Add64"], named := ["math/bits.divideError", "math/bits.overflowError"], apart := false }
def ActBendsSaid : Prop := actBendsRow.holds Try.pinned (OpenSpec.ofChange actBendsSpec)

/-- ITS FALSE NEIGHBOUR: 'it returns false'. Refute it at one input. -/
def actBendsWrong : ChangeSpec := { name := "actBends", fn := fun _ => fun
  | [d1, d2] => { results := [.lit (.bool false)], args := [d1, d2] }
  | _ => none }
def ActBendsWrongFalsely : Prop := actBendsRow.holds Try.pinned (OpenSpec.ofChange actBendsWrong)

/-- 'carousellaw9.ActRises': WHATEVER THE INPUT: true; the input reads as it did. -/
def actRisesSpec : ChangeSpec := { name := "actRises", fn := fun _ => fun
  | [d1, d2, d3] => { results := [.lit (.bool true)], args := [d1, d2, d3] }
  | _ => none }
def actRisesRow : OpenClaim := { program := "ytdamllanlligbaa", sum := "797b3ffbfc0d375ea33e49d67a292ef63a6da6a176d536209d16acdae554b9bb", func := "carousel/carousellaw9.ActRises", spec := "actRises", inPlace := ["math/bits.Add64"], named := ["math/bits.divideError", "math/bits.overflowError"], apart := false }
def ActRisesSaid : Prop := actRisesRow.holds Try.pinned (OpenSpec.ofChange actRisesSpec)

/-- ITS FALSE NEIGHBOUR: 'it returns false'. Refute it at one input. -/
def actRisesWrong : ChangeSpec := { name := "actRises", fn := fun _ => fun
  | [d1, d2, d3] => { results := [.lit (.bool false)], args := [d1, d2, d3] }
  | _ => none }
def ActRisesWrongFalsely : Prop := actRisesRow.holds Try.pinned (OpenSpec.ofChange actRisesWrong)

/-- 'carousellaw9.ActSlopes': WHATEVER THE INPUT: true; the input reads as it did. -/
def actSlopesSpec : ChangeSpec := { name := "actSlopes", fn := fun _ => fun
  | [d1, d2, d3] => { results := [.lit (.bool true)], args := [d1, d2, d3] }
  | _ => none }
def actSlopesRow : OpenClaim := { program := "ytdamllanlligbaa", sum := "797b3ffbfc0d375ea33e49d67a292ef63a6da6a176d536209d16acdae554b9bb", func := "carousel/carousellaw9.ActSlopes", spec := "actSlopes", inPlace := ["math/bits.Add64"], named := ["math/bits.divideError", "math/bits.overflowError"], apart := false }
def ActSlopesSaid : Prop := actSlopesRow.holds Try.pinned (OpenSpec.ofChange actSlopesSpec)

/-- ITS FALSE NEIGHBOUR: 'it returns false'. Refute it at one input. -/
def actSlopesWrong : ChangeSpec := { name := "actSlopes", fn := fun _ => fun
  | [d1, d2, d3] => { results := [.lit (.bool false)], args := [d1, d2, d3] }
  | _ => none }
def ActSlopesWrongFalsely : Prop := actSlopesRow.holds Try.pinned (OpenSpec.ofChange actSlopesWrong)

/-- 'carousellaw9.ActTwice': WHATEVER THE INPUT: true; the input reads as it did. -/
def actTwiceSpec : ChangeSpec := { name := "actTwice", fn := fun _ => fun
  | [d1, d2] => { results := [.lit (.bool true)], args := [d1, d2] }
  | _ => none }
def actTwiceRow : OpenClaim := { program := "ytdamllanlligbaa", sum := "797b3ffbfc0d375ea33e49d67a292ef63a6da6a176d536209d16acdae554b9bb", func := "carousel/carousellaw9.ActTwice", spec := "actTwice", inPlace := ["math/bits.Add64"], named := ["math/bits.divideError", "math/bits.overflowError"], apart := false }
def ActTwiceSaid : Prop := actTwiceRow.holds Try.pinned (OpenSpec.ofChange actTwiceSpec)

/-- ITS FALSE NEIGHBOUR: 'it returns false'. Refute it at one input. -/
def actTwiceWrong : ChangeSpec := { name := "actTwice", fn := fun _ => fun
  | [d1, d2] => { results := [.lit (.bool false)], args := [d1, d2] }
  | _ => none }
def ActTwiceWrongFalsely : Prop := actTwiceRow.holds Try.pinned (OpenSpec.ofChange actTwiceWrong)

/-- 'carousellaw9.ActRamps': WHATEVER THE INPUT: true; the input reads as it did. -/
def actRampsSpec : ChangeSpec := { name := "actRamps", fn := fun _ => fun
  | [d1, d2] => { results := [.lit (.bool true)], args := [d1, d2] }
  | _ => none }
def actRampsRow : OpenClaim := { program := "ytdamllanlligbaa", sum := "797b3ffbfc0d375ea33e49d67a292ef63a6da6a176d536209d16acdae554b9bb", func := "carousel/carousellaw9.ActRamps", spec := "actRamps", inPlace := ["math/bits.Add64"], named := ["math/bits.divideError", "math/bits.overflowError"], apart := false }
def ActRampsSaid : Prop := actRampsRow.holds Try.pinned (OpenSpec.ofChange actRampsSpec)

/-- ITS FALSE NEIGHBOUR: 'it returns false'. Refute it at one input. -/
def actRampsWrong : ChangeSpec := { name := "actRamps", fn := fun _ => fun
  | [d1, d2] => { results := [.lit (.bool false)], args := [d1, d2] }
  | _ => none }
def ActRampsWrongFalsely : Prop := actRampsRow.holds Try.pinned (OpenSpec.ofChange actRampsWrong)

/-- 'carousellaw9.ActKnown': WHATEVER THE INPUT: true; the input reads as it did. -/
def actKnownSpec : ChangeSpec := { name := "actKnown", fn := fun _ => fun
  | [] => { results := [.lit (.bool true)], args := [] }
  | _ => none }
def actKnownRow : OpenClaim := { program := "ytdamllanlligbaa", sum := "797b3ffbfc0d375ea33e49d67a292ef63a6da6a176d536209d16acdae554b9bb", func := "carousel/carousellaw9.ActKnown", spec := "actKnown", inPlace := ["math/bits.Add64"], named := ["math/bits.divideError", "math/bits.overflowError"], apart := false }
def ActKnownSaid : Prop := actKnownRow.holds Try.pinned (OpenSpec.ofChange actKnownSpec)

/-- ITS FALSE NEIGHBOUR: 'it returns false'. Refute it at one input. -/
def actKnownWrong : ChangeSpec := { name := "actKnown", fn := fun _ => fun
  | [] => { results := [.lit (.bool false)], args := [] }
  | _ => none }
def ActKnownWrongFalsely : Prop := actKnownRow.holds Try.pinned (OpenSpec.ofChange actKnownWrong)

/-- 'carousellaw9.ActAll': WHATEVER THE INPUT: true; the input reads as it did. -/
def actAllSpec : ChangeSpec := { name := "actAll", fn := fun _ => fun
  | [d1, d2, d3] => { results := [.lit (.bool true)], args := [d1, d2, d3] }
  | _ => none }
def actAllRow : OpenClaim := { program := "ytdamllanlligbaa", sum := "797b3ffbfc0d375ea33e49d67a292ef63a6da6a176d536209d16acdae554b9bb", func := "carousel/carousellaw9.ActAll", spec := "actAll", inPlace := ["math/bits.Add64"], named := ["math/bits.divideError", "math/bits.overflowError"], apart := false }
def ActAllSaid : Prop := actAllRow.holds Try.pinned (OpenSpec.ofChange actAllSpec)

/-- ITS FALSE NEIGHBOUR: 'it returns false'. Refute it at one input. -/
def actAllWrong : ChangeSpec := { name := "actAll", fn := fun _ => fun
  | [d1, d2, d3] => { results := [.lit (.bool false)], args := [d1, d2, d3] }
  | _ => none }
def ActAllWrongFalsely : Prop := actAllRow.holds Try.pinned (OpenSpec.ofChange actAllWrong)

/- THE SECOND FORM. 'bulk': how many values and letters a reading holds, each counted each time it is reached (what is shared counts as often as it is met; a slice's spare places count too). A statement '..UptoSaid' is the law's where the arguments, and the package variables that the reading takes, are together of bulk at most 1048576: NARROWER than '..Said'. Prove '..Said' where nothing that the law and all that it calls make is longer than what came in: it says more and counts as full. Else prove '..UptoSaid'. A law counts once. -/
mutual
def uptoBulk {H : Type} : DataW H → Nat
  | .lit (.string bytes) => bytes.length + 1
  | .lit _ => 1
  | .nil => 1
  | .ptr d => uptoBulk d + 1
  | .slice elems spare => uptoBulkAll elems + uptoBulkAll spare + 1
  | .agg parts => uptoBulkAll parts + 1
  | .iface _ d => uptoBulk d + 1
  | .map entries => uptoBulkEntries entries + 1
  | .held _ => 1
def uptoBulkAll {H : Type} : List (DataW H) → Nat
  | [] => 0
  | d :: r => uptoBulk d + uptoBulkAll r
def uptoBulkEntries {H : Type} : List (Lit × DataW H) → Nat
  | [] => 0
  | x :: r => uptoBulkEntry x + uptoBulkEntries r
def uptoBulkEntry {H : Type} : Lit × DataW H → Nat
  | (.string bytes, d) => bytes.length + uptoBulk d + 1
  | (_, d) => uptoBulk d + 1
 end
def uptoSmall : (H : Type) → List (DataW H) → Bool := fun _ ds => decide (uptoBulkAll ds ≤ 1048576)
def OpenSpec.upto (s : _root_.Go.ChangeSpec) : _root_.Go.OpenSpec := { _root_.Go.OpenSpec.ofChange s with cond := some uptoSmall }

/-- 'carousellaw9.ActBends', WHERE WHAT IT READS IS OF BULK AT MOST 1048576: true; the input reads as it did. -/
def actBendsUptoRow : OpenClaim := { program := "ytdamllanlligbaa", sum := "797b3ffbfc0d375ea33e49d67a292ef63a6da6a176d536209d16acdae554b9bb", func := "carousel/carousellaw9.ActBends", spec := "actBends", inPlace := ["math/bits.Add64"], named := ["math/bits.divideError", "math/bits.overflowError"], apart := false, narrowed := true }
def ActBendsUptoSaid : Prop := actBendsUptoRow.holds Try.pinned (OpenSpec.upto actBendsSpec)

/-- 'carousellaw9.ActRises', WHERE WHAT IT READS IS OF BULK AT MOST 1048576: true; the input reads as it did. -/
def actRisesUptoRow : OpenClaim := { program := "ytdamllanlligbaa", sum := "797b3ffbfc0d375ea33e49d67a292ef63a6da6a176d536209d16acdae554b9bb", func := "carousel/carousellaw9.ActRises", spec := "actRises", inPlace := ["math/bits.Add64"], named := ["math/bits.divideError", "math/bits.overflowError"], apart := false, narrowed := true }
def ActRisesUptoSaid : Prop := actRisesUptoRow.holds Try.pinned (OpenSpec.upto actRisesSpec)

/-- 'carousellaw9.ActSlopes', WHERE WHAT IT READS IS OF BULK AT MOST 1048576: true; the input reads as it did. -/
def actSlopesUptoRow : OpenClaim := { program := "ytdamllanlligbaa", sum := "797b3ffbfc0d375ea33e49d67a292ef63a6da6a176d536209d16acdae554b9bb", func := "carousel/carousellaw9.ActSlopes", spec := "actSlopes", inPlace := ["math/bits.Add64"], named := ["math/bits.divideError", "math/bits.overflowError"], apart := false, narrowed := true }
def ActSlopesUptoSaid : Prop := actSlopesUptoRow.holds Try.pinned (OpenSpec.upto actSlopesSpec)

/-- 'carousellaw9.ActTwice', WHERE WHAT IT READS IS OF BULK AT MOST 1048576: true; the input reads as it did. -/
def actTwiceUptoRow : OpenClaim := { program := "ytdamllanlligbaa", sum := "797b3ffbfc0d375ea33e49d67a292ef63a6da6a176d536209d16acdae554b9bb", func := "carousel/carousellaw9.ActTwice", spec := "actTwice", inPlace := ["math/bits.Add64"], named := ["math/bits.divideError", "math/bits.overflowError"], apart := false, narrowed := true }
def ActTwiceUptoSaid : Prop := actTwiceUptoRow.holds Try.pinned (OpenSpec.upto actTwiceSpec)

/-- 'carousellaw9.ActRamps', WHERE WHAT IT READS IS OF BULK AT MOST 1048576: true; the input reads as it did. -/
def actRampsUptoRow : OpenClaim := { program := "ytdamllanlligbaa", sum := "797b3ffbfc0d375ea33e49d67a292ef63a6da6a176d536209d16acdae554b9bb", func := "carousel/carousellaw9.ActRamps", spec := "actRamps", inPlace := ["math/bits.Add64"], named := ["math/bits.divideError", "math/bits.overflowError"], apart := false, narrowed := true }
def ActRampsUptoSaid : Prop := actRampsUptoRow.holds Try.pinned (OpenSpec.upto actRampsSpec)

/-- 'carousellaw9.ActKnown', WHERE WHAT IT READS IS OF BULK AT MOST 1048576: true; the input reads as it did. -/
def actKnownUptoRow : OpenClaim := { program := "ytdamllanlligbaa", sum := "797b3ffbfc0d375ea33e49d67a292ef63a6da6a176d536209d16acdae554b9bb", func := "carousel/carousellaw9.ActKnown", spec := "actKnown", inPlace := ["math/bits.Add64"], named := ["math/bits.divideError", "math/bits.overflowError"], apart := false, narrowed := true }
def ActKnownUptoSaid : Prop := actKnownUptoRow.holds Try.pinned (OpenSpec.upto actKnownSpec)

/-- 'carousellaw9.ActAll', WHERE WHAT IT READS IS OF BULK AT MOST 1048576: true; the input reads as it did. -/
def actAllUptoRow : OpenClaim := { program := "ytdamllanlligbaa", sum := "797b3ffbfc0d375ea33e49d67a292ef63a6da6a176d536209d16acdae554b9bb", func := "carousel/carousellaw9.ActAll", spec := "actAll", inPlace := ["math/bits.Add64"], named := ["math/bits.divideError", "math/bits.overflowError"], apart := false, narrowed := true }
def ActAllUptoSaid : Prop := actAllUptoRow.holds Try.pinned (OpenSpec.upto actAllSpec)

end Rows
end Go.Proofs.Ytdamllanlligbaa
