/-
  NARROWER THAN 'FOR EVERY INPUT', by the rows' own cells (each row's printed sentence says how): FixSays: laid · FixNear: laid · FixHeld: laid · FixRises: laid · FixKnown: laid · FixTurns: laid · FixWhole: laid · FixReckons: laid.
  DERIVED. THE GIVEN ROWS OF THIS SEAT. 8 by the template 'for every input the law returns true; each argument reads behind the call as it read before'; 0 by the template 'total and deterministic' (their statements: YtjiloachlemlcaaDoorTotals.lean).
  GIVEN WITH THE SEED: the statements are not yours to turn. If you find one false, say at which input.
  Laid BY PROGRAM, IN A SANDBOX (cutbox-rows.mjs): the forced cells as the released guide's own fill.sh prints them over the translation f692def094e7c92f… (all of the seat's roots in one cut). By AI agents, Wed Nov 11 2026. No macro, syntax, notation, axiom, sorry.
-/
import Derived.Test.YtjiloachlemlcaaDoorChecked
import GoSem.Claim
import GoSem.ClaimJoined
import GoSem.ClaimMapViews
import Derived.JoinedTies
import Derived.KernelRfl
namespace Go.Proofs.YtjiloachlemlcaaDoor
/- THE CELL 'sum', in the pinned program and in every row, IS THE sha256 OF THE DUMP (.gsa) THAT YtjiloachlemlcaaDoorProg.lean LOADS. Nothing in Lean hashes anything: it is a label: what it is worth is what the hold of that sum in a sandbox is worth. -/
noncomputable def Tryd.pinned : Pinned := { name := "ytjiloachlemlcaadoor", sum := "f692def094e7c92f118f57c97a4862a9235474d348d8773991a31eb712189157", checked := Tryd.checked }
namespace Rows
def none {H : Type} : Left H := { results := [], args := [] }

/- WHAT THE LISTED PACKAGE-LEVEL VARIABLES READ AS WHEN THE CALL BEGINS. Each datum BY PROGRAM (the guide's laid-datum.mjs) off the statement by which the dump's own 'gosem.cut.vars' lays the variable. In a bare row this is a premise. The card (YtjiloachlemlcaaDoorCards.lean) ties it to the program's text. -/
def laid_math_bits_deBruijn32tab {H : Type} : DataW H := .agg [.lit (.int .u8 0), .lit (.int .u8 1), .lit (.int .u8 28), .lit (.int .u8 2), .lit (.int .u8 29), .lit (.int .u8 14), .lit (.int .u8 24), .lit (.int .u8 3), .lit (.int .u8 30), .lit (.int .u8 22), .lit (.int .u8 20), .lit (.int .u8 15), .lit (.int .u8 25), .lit (.int .u8 17), .lit (.int .u8 4), .lit (.int .u8 8), .lit (.int .u8 31), .lit (.int .u8 27), .lit (.int .u8 13), .lit (.int .u8 23), .lit (.int .u8 21), .lit (.int .u8 19), .lit (.int .u8 16), .lit (.int .u8 7), .lit (.int .u8 26), .lit (.int .u8 12), .lit (.int .u8 18), .lit (.int .u8 6), .lit (.int .u8 11), .lit (.int .u8 5), .lit (.int .u8 10), .lit (.int .u8 9)]
def laid_math_bits_deBruijn64tab {H : Type} : DataW H := .agg [.lit (.int .u8 0), .lit (.int .u8 1), .lit (.int .u8 56), .lit (.int .u8 2), .lit (.int .u8 57), .lit (.int .u8 49), .lit (.int .u8 28), .lit (.int .u8 3), .lit (.int .u8 61), .lit (.int .u8 58), .lit (.int .u8 42), .lit (.int .u8 50), .lit (.int .u8 38), .lit (.int .u8 29), .lit (.int .u8 17), .lit (.int .u8 4), .lit (.int .u8 62), .lit (.int .u8 47), .lit (.int .u8 59), .lit (.int .u8 36), .lit (.int .u8 45), .lit (.int .u8 43), .lit (.int .u8 51), .lit (.int .u8 22), .lit (.int .u8 53), .lit (.int .u8 39), .lit (.int .u8 33), .lit (.int .u8 30), .lit (.int .u8 24), .lit (.int .u8 18), .lit (.int .u8 12), .lit (.int .u8 5), .lit (.int .u8 63), .lit (.int .u8 55), .lit (.int .u8 48), .lit (.int .u8 27), .lit (.int .u8 60), .lit (.int .u8 41), .lit (.int .u8 37), .lit (.int .u8 16), .lit (.int .u8 46), .lit (.int .u8 35), .lit (.int .u8 44), .lit (.int .u8 21), .lit (.int .u8 52), .lit (.int .u8 32), .lit (.int .u8 23), .lit (.int .u8 11), .lit (.int .u8 54), .lit (.int .u8 26), .lit (.int .u8 40), .lit (.int .u8 15), .lit (.int .u8 34), .lit (.int .u8 20), .lit (.int .u8 31), .lit (.int .u8 10), .lit (.int .u8 25), .lit (.int .u8 14), .lit (.int .u8 19), .lit (.int .u8 9), .lit (.int .u8 13), .lit (.int .u8 8), .lit (.int .u8 7), .lit (.int .u8 6)]
def laid_internal_strconv_uint64pow10 {H : Type} : DataW H := .agg [.lit (.int .u64 1), .lit (.int .u64 10), .lit (.int .u64 100), .lit (.int .u64 1000), .lit (.int .u64 10000), .lit (.int .u64 100000), .lit (.int .u64 1000000), .lit (.int .u64 10000000), .lit (.int .u64 100000000), .lit (.int .u64 1000000000), .lit (.int .u64 10000000000), .lit (.int .u64 100000000000), .lit (.int .u64 1000000000000), .lit (.int .u64 10000000000000), .lit (.int .u64 100000000000000), .lit (.int .u64 1000000000000000), .lit (.int .u64 10000000000000000), .lit (.int .u64 100000000000000000), .lit (.int .u64 1000000000000000000), .lit (.int .u64 10000000000000000000)]

/-- 'carousellaw1.FixSays': WHATEVER THE INPUT: true; the input reads as it did. -/
def fixSaysSpec : ChangeSpec := { name := "fixSays", fn := fun _ => fun
  | [d1, d2] => { results := [.lit (.bool true)], args := [d1, d2] }
  | _ => none }
def fixSaysRow : OpenClaim := { program := "ytjiloachlemlcaadoor", sum := "f692def094e7c92f118f57c97a4862a9235474d348d8773991a31eb712189157", func := "carousel/carousellaw1.FixSays", spec := "fixSays", inPlace := ["math/bits.Add64", "internal/abi.NoEscape", "internal/bytealg.MakeNoZero"], recurses := true, named := ["math/bits.divideError", "math/bits.overflowError", "internal/strconv.uint64pow10", "math/bits.deBruijn32tab", "math/bits.deBruijn64tab"], apart := false, laid := [("math/bits.deBruijn32tab", laid_math_bits_deBruijn32tab), ("math/bits.deBruijn64tab", laid_math_bits_deBruijn64tab), ("internal/strconv.uint64pow10", laid_internal_strconv_uint64pow10)] }
def FixSaysSaid : Prop := fixSaysRow.holds Tryd.pinned (OpenSpec.ofChange fixSaysSpec)

/-- ITS FALSE NEIGHBOUR: 'it returns false'. Refute it at one input. -/
def fixSaysWrong : ChangeSpec := { name := "fixSays", fn := fun _ => fun
  | [d1, d2] => { results := [.lit (.bool false)], args := [d1, d2] }
  | _ => none }
def FixSaysWrongFalsely : Prop := fixSaysRow.holds Tryd.pinned (OpenSpec.ofChange fixSaysWrong)

/-- 'carousellaw1.FixNear': WHATEVER THE INPUT: true; the input reads as it did. -/
def fixNearSpec : ChangeSpec := { name := "fixNear", fn := fun _ => fun
  | [d1, d2] => { results := [.lit (.bool true)], args := [d1, d2] }
  | _ => none }
def fixNearRow : OpenClaim := { program := "ytjiloachlemlcaadoor", sum := "f692def094e7c92f118f57c97a4862a9235474d348d8773991a31eb712189157", func := "carousel/carousellaw1.FixNear", spec := "fixNear", inPlace := ["math/bits.Add64", "internal/abi.NoEscape", "internal/bytealg.MakeNoZero"], named := ["math/bits.divideError", "math/bits.overflowError", "internal/strconv.uint64pow10", "math/bits.deBruijn32tab", "math/bits.deBruijn64tab"], apart := false, laid := [("math/bits.deBruijn32tab", laid_math_bits_deBruijn32tab), ("math/bits.deBruijn64tab", laid_math_bits_deBruijn64tab), ("internal/strconv.uint64pow10", laid_internal_strconv_uint64pow10)] }
def FixNearSaid : Prop := fixNearRow.holds Tryd.pinned (OpenSpec.ofChange fixNearSpec)

/-- ITS FALSE NEIGHBOUR: 'it returns false'. Refute it at one input. -/
def fixNearWrong : ChangeSpec := { name := "fixNear", fn := fun _ => fun
  | [d1, d2] => { results := [.lit (.bool false)], args := [d1, d2] }
  | _ => none }
def FixNearWrongFalsely : Prop := fixNearRow.holds Tryd.pinned (OpenSpec.ofChange fixNearWrong)

/-- 'carousellaw1.FixHeld': WHATEVER THE INPUT: true; the input reads as it did. -/
def fixHeldSpec : ChangeSpec := { name := "fixHeld", fn := fun _ => fun
  | [d1, d2] => { results := [.lit (.bool true)], args := [d1, d2] }
  | _ => none }
def fixHeldRow : OpenClaim := { program := "ytjiloachlemlcaadoor", sum := "f692def094e7c92f118f57c97a4862a9235474d348d8773991a31eb712189157", func := "carousel/carousellaw1.FixHeld", spec := "fixHeld", inPlace := ["math/bits.Add64", "internal/abi.NoEscape", "internal/bytealg.MakeNoZero"], named := ["math/bits.divideError", "math/bits.overflowError", "internal/strconv.uint64pow10", "math/bits.deBruijn32tab", "math/bits.deBruijn64tab"], apart := false, laid := [("math/bits.deBruijn32tab", laid_math_bits_deBruijn32tab), ("math/bits.deBruijn64tab", laid_math_bits_deBruijn64tab), ("internal/strconv.uint64pow10", laid_internal_strconv_uint64pow10)] }
def FixHeldSaid : Prop := fixHeldRow.holds Tryd.pinned (OpenSpec.ofChange fixHeldSpec)

/-- ITS FALSE NEIGHBOUR: 'it returns false'. Refute it at one input. -/
def fixHeldWrong : ChangeSpec := { name := "fixHeld", fn := fun _ => fun
  | [d1, d2] => { results := [.lit (.bool false)], args := [d1, d2] }
  | _ => none }
def FixHeldWrongFalsely : Prop := fixHeldRow.holds Tryd.pinned (OpenSpec.ofChange fixHeldWrong)

/-- 'carousellaw1.FixRises': WHATEVER THE INPUT: true; the input reads as it did. -/
def fixRisesSpec : ChangeSpec := { name := "fixRises", fn := fun _ => fun
  | [d1, d2, d3] => { results := [.lit (.bool true)], args := [d1, d2, d3] }
  | _ => none }
def fixRisesRow : OpenClaim := { program := "ytjiloachlemlcaadoor", sum := "f692def094e7c92f118f57c97a4862a9235474d348d8773991a31eb712189157", func := "carousel/carousellaw1.FixRises", spec := "fixRises", inPlace := ["math/bits.Add64", "internal/abi.NoEscape", "internal/bytealg.MakeNoZero"], named := ["math/bits.divideError", "math/bits.overflowError", "internal/strconv.uint64pow10", "math/bits.deBruijn32tab", "math/bits.deBruijn64tab"], apart := false, laid := [("math/bits.deBruijn32tab", laid_math_bits_deBruijn32tab), ("math/bits.deBruijn64tab", laid_math_bits_deBruijn64tab), ("internal/strconv.uint64pow10", laid_internal_strconv_uint64pow10)] }
def FixRisesSaid : Prop := fixRisesRow.holds Tryd.pinned (OpenSpec.ofChange fixRisesSpec)

/-- ITS FALSE NEIGHBOUR: 'it returns false'. Refute it at one input. -/
def fixRisesWrong : ChangeSpec := { name := "fixRises", fn := fun _ => fun
  | [d1, d2, d3] => { results := [.lit (.bool false)], args := [d1, d2, d3] }
  | _ => none }
def FixRisesWrongFalsely : Prop := fixRisesRow.holds Tryd.pinned (OpenSpec.ofChange fixRisesWrong)

/-- 'carousellaw1.FixKnown': WHATEVER THE INPUT: true; the input reads as it did. -/
def fixKnownSpec : ChangeSpec := { name := "fixKnown", fn := fun _ => fun
  | [] => { results := [.lit (.bool true)], args := [] }
  | _ => none }
def fixKnownRow : OpenClaim := { program := "ytjiloachlemlcaadoor", sum := "f692def094e7c92f118f57c97a4862a9235474d348d8773991a31eb712189157", func := "carousel/carousellaw1.FixKnown", spec := "fixKnown", inPlace := ["math/bits.Add64", "internal/abi.NoEscape", "internal/bytealg.MakeNoZero"], named := ["math/bits.divideError", "math/bits.overflowError", "internal/strconv.uint64pow10", "math/bits.deBruijn32tab", "math/bits.deBruijn64tab"], apart := false, laid := [("math/bits.deBruijn32tab", laid_math_bits_deBruijn32tab), ("math/bits.deBruijn64tab", laid_math_bits_deBruijn64tab), ("internal/strconv.uint64pow10", laid_internal_strconv_uint64pow10)] }
def FixKnownSaid : Prop := fixKnownRow.holds Tryd.pinned (OpenSpec.ofChange fixKnownSpec)

/-- ITS FALSE NEIGHBOUR: 'it returns false'. Refute it at one input. -/
def fixKnownWrong : ChangeSpec := { name := "fixKnown", fn := fun _ => fun
  | [] => { results := [.lit (.bool false)], args := [] }
  | _ => none }
def FixKnownWrongFalsely : Prop := fixKnownRow.holds Tryd.pinned (OpenSpec.ofChange fixKnownWrong)

/-- 'carousellaw1.FixTurns': WHATEVER THE INPUT: true; the input reads as it did. -/
def fixTurnsSpec : ChangeSpec := { name := "fixTurns", fn := fun _ => fun
  | [d1, d2] => { results := [.lit (.bool true)], args := [d1, d2] }
  | _ => none }
def fixTurnsRow : OpenClaim := { program := "ytjiloachlemlcaadoor", sum := "f692def094e7c92f118f57c97a4862a9235474d348d8773991a31eb712189157", func := "carousel/carousellaw1.FixTurns", spec := "fixTurns", inPlace := ["math/bits.Add64", "internal/abi.NoEscape", "internal/bytealg.MakeNoZero"], named := ["math/bits.divideError", "math/bits.overflowError", "internal/strconv.uint64pow10", "math/bits.deBruijn32tab", "math/bits.deBruijn64tab"], apart := false, laid := [("math/bits.deBruijn32tab", laid_math_bits_deBruijn32tab), ("math/bits.deBruijn64tab", laid_math_bits_deBruijn64tab), ("internal/strconv.uint64pow10", laid_internal_strconv_uint64pow10)] }
def FixTurnsSaid : Prop := fixTurnsRow.holds Tryd.pinned (OpenSpec.ofChange fixTurnsSpec)

/-- ITS FALSE NEIGHBOUR: 'it returns false'. Refute it at one input. -/
def fixTurnsWrong : ChangeSpec := { name := "fixTurns", fn := fun _ => fun
  | [d1, d2] => { results := [.lit (.bool false)], args := [d1, d2] }
  | _ => none }
def FixTurnsWrongFalsely : Prop := fixTurnsRow.holds Tryd.pinned (OpenSpec.ofChange fixTurnsWrong)

/-- 'carousellaw1.FixWhole': WHATEVER THE INPUT: true; the input reads as it did. -/
def fixWholeSpec : ChangeSpec := { name := "fixWhole", fn := fun _ => fun
  | [d1, d2] => { results := [.lit (.bool true)], args := [d1, d2] }
  | _ => none }
def fixWholeRow : OpenClaim := { program := "ytjiloachlemlcaadoor", sum := "f692def094e7c92f118f57c97a4862a9235474d348d8773991a31eb712189157", func := "carousel/carousellaw1.FixWhole", spec := "fixWhole", inPlace := ["math/bits.Add64", "internal/abi.NoEscape", "internal/bytealg.MakeNoZero"], named := ["math/bits.divideError", "math/bits.overflowError", "internal/strconv.uint64pow10", "math/bits.deBruijn32tab", "math/bits.deBruijn64tab"], apart := false, laid := [("math/bits.deBruijn32tab", laid_math_bits_deBruijn32tab), ("math/bits.deBruijn64tab", laid_math_bits_deBruijn64tab), ("internal/strconv.uint64pow10", laid_internal_strconv_uint64pow10)] }
def FixWholeSaid : Prop := fixWholeRow.holds Tryd.pinned (OpenSpec.ofChange fixWholeSpec)

/-- ITS FALSE NEIGHBOUR: 'it returns false'. Refute it at one input. -/
def fixWholeWrong : ChangeSpec := { name := "fixWhole", fn := fun _ => fun
  | [d1, d2] => { results := [.lit (.bool false)], args := [d1, d2] }
  | _ => none }
def FixWholeWrongFalsely : Prop := fixWholeRow.holds Tryd.pinned (OpenSpec.ofChange fixWholeWrong)

/-- 'carousellaw1.FixReckons': WHATEVER THE INPUT: true; the input reads as it did. -/
def fixReckonsSpec : ChangeSpec := { name := "fixReckons", fn := fun _ => fun
  | [d1, d2] => { results := [.lit (.bool true)], args := [d1, d2] }
  | _ => none }
def fixReckonsRow : OpenClaim := { program := "ytjiloachlemlcaadoor", sum := "f692def094e7c92f118f57c97a4862a9235474d348d8773991a31eb712189157", func := "carousel/carousellaw1.FixReckons", spec := "fixReckons", inPlace := ["math/bits.Add64", "internal/abi.NoEscape", "internal/bytealg.MakeNoZero"], named := ["math/bits.divideError", "math/bits.overflowError", "internal/strconv.uint64pow10", "math/bits.deBruijn32tab", "math/bits.deBruijn64tab"], apart := false, laid := [("math/bits.deBruijn32tab", laid_math_bits_deBruijn32tab), ("math/bits.deBruijn64tab", laid_math_bits_deBruijn64tab), ("internal/strconv.uint64pow10", laid_internal_strconv_uint64pow10)] }
def FixReckonsSaid : Prop := fixReckonsRow.holds Tryd.pinned (OpenSpec.ofChange fixReckonsSpec)

/-- ITS FALSE NEIGHBOUR: 'it returns false'. Refute it at one input. -/
def fixReckonsWrong : ChangeSpec := { name := "fixReckons", fn := fun _ => fun
  | [d1, d2] => { results := [.lit (.bool false)], args := [d1, d2] }
  | _ => none }
def FixReckonsWrongFalsely : Prop := fixReckonsRow.holds Tryd.pinned (OpenSpec.ofChange fixReckonsWrong)

/- THE SECOND FORM. 'bulk': how many values and letters a reading holds, each counted each time it is reached (what is shared counts as often as it is met; a slice's spare places count too). A statement '..UptoSaid' is the law's where the arguments, and the package variables that the reading takes, are together of bulk at most 1048576: NARROWER than '..Said'. Prove '..Said' where nothing that the law and all that it calls make is longer than what came in: it says more and counts as full. Else prove '..UptoSaid'. A law counts once. -/
mutual
def uptoBulk {H : Type} : DataW H → Nat
  | .lit (.string bytes) => bytes.length + 1
  | .lit _ => 1
  | .nil => 1
  | .ptr d => uptoBulk d + 1
  | .slice elems spare => uptoBulkAll elems + uptoBulkAll spare + 1
  | .agg parts => uptoBulkAll parts + 1
  | .iface _ d => uptoBulk d + 1
  | .map entries => uptoBulkEntries entries + 1
  | .held _ => 1
def uptoBulkAll {H : Type} : List (DataW H) → Nat
  | [] => 0
  | d :: r => uptoBulk d + uptoBulkAll r
def uptoBulkEntries {H : Type} : List (Lit × DataW H) → Nat
  | [] => 0
  | x :: r => uptoBulkEntry x + uptoBulkEntries r
def uptoBulkEntry {H : Type} : Lit × DataW H → Nat
  | (.string bytes, d) => bytes.length + uptoBulk d + 1
  | (_, d) => uptoBulk d + 1
 end
def uptoSmall : (H : Type) → List (DataW H) → Bool := fun _ ds => decide (uptoBulkAll ds ≤ 1048576)
def OpenSpec.upto (s : _root_.Go.ChangeSpec) : _root_.Go.OpenSpec := { _root_.Go.OpenSpec.ofChange s with cond := some uptoSmall }

/-- 'carousellaw1.FixSays', WHERE WHAT IT READS IS OF BULK AT MOST 1048576: true; the input reads as it did. -/
def fixSaysUptoRow : OpenClaim := { program := "ytjiloachlemlcaadoor", sum := "f692def094e7c92f118f57c97a4862a9235474d348d8773991a31eb712189157", func := "carousel/carousellaw1.FixSays", spec := "fixSays", inPlace := ["math/bits.Add64", "internal/abi.NoEscape", "internal/bytealg.MakeNoZero"], recurses := true, named := ["math/bits.divideError", "math/bits.overflowError", "internal/strconv.uint64pow10", "math/bits.deBruijn32tab", "math/bits.deBruijn64tab"], apart := false, laid := [("math/bits.deBruijn32tab", laid_math_bits_deBruijn32tab), ("math/bits.deBruijn64tab", laid_math_bits_deBruijn64tab), ("internal/strconv.uint64pow10", laid_internal_strconv_uint64pow10)], narrowed := true }
def FixSaysUptoSaid : Prop := fixSaysUptoRow.holds Tryd.pinned (OpenSpec.upto fixSaysSpec)

/-- 'carousellaw1.FixNear', WHERE WHAT IT READS IS OF BULK AT MOST 1048576: true; the input reads as it did. -/
def fixNearUptoRow : OpenClaim := { program := "ytjiloachlemlcaadoor", sum := "f692def094e7c92f118f57c97a4862a9235474d348d8773991a31eb712189157", func := "carousel/carousellaw1.FixNear", spec := "fixNear", inPlace := ["math/bits.Add64", "internal/abi.NoEscape", "internal/bytealg.MakeNoZero"], named := ["math/bits.divideError", "math/bits.overflowError", "internal/strconv.uint64pow10", "math/bits.deBruijn32tab", "math/bits.deBruijn64tab"], apart := false, laid := [("math/bits.deBruijn32tab", laid_math_bits_deBruijn32tab), ("math/bits.deBruijn64tab", laid_math_bits_deBruijn64tab), ("internal/strconv.uint64pow10", laid_internal_strconv_uint64pow10)], narrowed := true }
def FixNearUptoSaid : Prop := fixNearUptoRow.holds Tryd.pinned (OpenSpec.upto fixNearSpec)

/-- 'carousellaw1.FixHeld', WHERE WHAT IT READS IS OF BULK AT MOST 1048576: true; the input reads as it did. -/
def fixHeldUptoRow : OpenClaim := { program := "ytjiloachlemlcaadoor", sum := "f692def094e7c92f118f57c97a4862a9235474d348d8773991a31eb712189157", func := "carousel/carousellaw1.FixHeld", spec := "fixHeld", inPlace := ["math/bits.Add64", "internal/abi.NoEscape", "internal/bytealg.MakeNoZero"], named := ["math/bits.divideError", "math/bits.overflowError", "internal/strconv.uint64pow10", "math/bits.deBruijn32tab", "math/bits.deBruijn64tab"], apart := false, laid := [("math/bits.deBruijn32tab", laid_math_bits_deBruijn32tab), ("math/bits.deBruijn64tab", laid_math_bits_deBruijn64tab), ("internal/strconv.uint64pow10", laid_internal_strconv_uint64pow10)], narrowed := true }
def FixHeldUptoSaid : Prop := fixHeldUptoRow.holds Tryd.pinned (OpenSpec.upto fixHeldSpec)

/-- 'carousellaw1.FixRises', WHERE WHAT IT READS IS OF BULK AT MOST 1048576: true; the input reads as it did. -/
def fixRisesUptoRow : OpenClaim := { program := "ytjiloachlemlcaadoor", sum := "f692def094e7c92f118f57c97a4862a9235474d348d8773991a31eb712189157", func := "carousel/carousellaw1.FixRises", spec := "fixRises", inPlace := ["math/bits.Add64", "internal/abi.NoEscape", "internal/bytealg.MakeNoZero"], named := ["math/bits.divideError", "math/bits.overflowError", "internal/strconv.uint64pow10", "math/bits.deBruijn32tab", "math/bits.deBruijn64tab"], apart := false, laid := [("math/bits.deBruijn32tab", laid_math_bits_deBruijn32tab), ("math/bits.deBruijn64tab", laid_math_bits_deBruijn64tab), ("internal/strconv.uint64pow10", laid_internal_strconv_uint64pow10)], narrowed := true }
def FixRisesUptoSaid : Prop := fixRisesUptoRow.holds Tryd.pinned (OpenSpec.upto fixRisesSpec)

/-- 'carousellaw1.FixKnown', WHERE WHAT IT READS IS OF BULK AT MOST 1048576: true; the input reads as it did. -/
def fixKnownUptoRow : OpenClaim := { program := "ytjiloachlemlcaadoor", sum := "f692def094e7c92f118f57c97a4862a9235474d348d8773991a31eb712189157", func := "carousel/carousellaw1.FixKnown", spec := "fixKnown", inPlace := ["math/bits.Add64", "internal/abi.NoEscape", "internal/bytealg.MakeNoZero"], named := ["math/bits.divideError", "math/bits.overflowError", "internal/strconv.uint64pow10", "math/bits.deBruijn32tab", "math/bits.deBruijn64tab"], apart := false, laid := [("math/bits.deBruijn32tab", laid_math_bits_deBruijn32tab), ("math/bits.deBruijn64tab", laid_math_bits_deBruijn64tab), ("internal/strconv.uint64pow10", laid_internal_strconv_uint64pow10)], narrowed := true }
def FixKnownUptoSaid : Prop := fixKnownUptoRow.holds Tryd.pinned (OpenSpec.upto fixKnownSpec)

/-- 'carousellaw1.FixTurns', WHERE WHAT IT READS IS OF BULK AT MOST 1048576: true; the input reads as it did. -/
def fixTurnsUptoRow : OpenClaim := { program := "ytjiloachlemlcaadoor", sum := "f692def094e7c92f118f57c97a4862a9235474d348d8773991a31eb712189157", func := "carousel/carousellaw1.FixTurns", spec := "fixTurns", inPlace := ["math/bits.Add64", "internal/abi.NoEscape", "internal/bytealg.MakeNoZero"], named := ["math/bits.divideError", "math/bits.overflowError", "internal/strconv.uint64pow10", "math/bits.deBruijn32tab", "math/bits.deBruijn64tab"], apart := false, laid := [("math/bits.deBruijn32tab", laid_math_bits_deBruijn32tab), ("math/bits.deBruijn64tab", laid_math_bits_deBruijn64tab), ("internal/strconv.uint64pow10", laid_internal_strconv_uint64pow10)], narrowed := true }
def FixTurnsUptoSaid : Prop := fixTurnsUptoRow.holds Tryd.pinned (OpenSpec.upto fixTurnsSpec)

/-- 'carousellaw1.FixWhole', WHERE WHAT IT READS IS OF BULK AT MOST 1048576: true; the input reads as it did. -/
def fixWholeUptoRow : OpenClaim := { program := "ytjiloachlemlcaadoor", sum := "f692def094e7c92f118f57c97a4862a9235474d348d8773991a31eb712189157", func := "carousel/carousellaw1.FixWhole", spec := "fixWhole", inPlace := ["math/bits.Add64", "internal/abi.NoEscape", "internal/bytealg.MakeNoZero"], named := ["math/bits.divideError", "math/bits.overflowError", "internal/strconv.uint64pow10", "math/bits.deBruijn32tab", "math/bits.deBruijn64tab"], apart := false, laid := [("math/bits.deBruijn32tab", laid_math_bits_deBruijn32tab), ("math/bits.deBruijn64tab", laid_math_bits_deBruijn64tab), ("internal/strconv.uint64pow10", laid_internal_strconv_uint64pow10)], narrowed := true }
def FixWholeUptoSaid : Prop := fixWholeUptoRow.holds Tryd.pinned (OpenSpec.upto fixWholeSpec)

/-- 'carousellaw1.FixReckons', WHERE WHAT IT READS IS OF BULK AT MOST 1048576: true; the input reads as it did. -/
def fixReckonsUptoRow : OpenClaim := { program := "ytjiloachlemlcaadoor", sum := "f692def094e7c92f118f57c97a4862a9235474d348d8773991a31eb712189157", func := "carousel/carousellaw1.FixReckons", spec := "fixReckons", inPlace := ["math/bits.Add64", "internal/abi.NoEscape", "internal/bytealg.MakeNoZero"], named := ["math/bits.divideError", "math/bits.overflowError", "internal/strconv.uint64pow10", "math/bits.deBruijn32tab", "math/bits.deBruijn64tab"], apart := false, laid := [("math/bits.deBruijn32tab", laid_math_bits_deBruijn32tab), ("math/bits.deBruijn64tab", laid_math_bits_deBruijn64tab), ("internal/strconv.uint64pow10", laid_internal_strconv_uint64pow10)], narrowed := true }
def FixReckonsUptoSaid : Prop := fixReckonsUptoRow.holds Tryd.pinned (OpenSpec.upto fixReckonsSpec)

end Rows
end Go.Proofs.YtjiloachlemlcaaDoor
