/-
  No cell of these rows narrows 'for every input' (looked for: loops, veiled, ifaces, maps, wideKeys, modest, calm, conditions, laid).
  DERIVED. THE GIVEN ROWS OF THIS SEAT. 6 by the template 'for every input the law returns true; each argument reads behind the call as it read before'; 0 by the template 'total and deterministic' (their statements: YtaanhfcioemekaaTotals.lean).
  GIVEN WITH THE SEED: the statements are not yours to turn. If you find one false, say at which input.
  Laid BY PROGRAM, IN A SANDBOX (cutbox-rows.mjs): the forced cells as the released guide's own fill.sh prints them over the translation e105232b7d723586… (all of the seat's roots in one cut). By AI agents, Wed Nov 11 2026. No macro, syntax, notation, axiom, sorry.
-/
import Derived.Test.YtaanhfcioemekaaChecked
import GoSem.Claim
import GoSem.ClaimJoined
import GoSem.ClaimMapViews
import Derived.JoinedTies
import Derived.KernelRfl
namespace Go.Proofs.Ytaanhfcioemekaa
/- THE CELL 'sum', in the pinned program and in every row, IS THE sha256 OF THE DUMP (.gsa) THAT YtaanhfcioemekaaProg.lean LOADS. Nothing in Lean hashes anything: it is a label: what it is worth is what the hold of that sum in a sandbox is worth. -/
noncomputable def Try.pinned : Pinned := { name := "ytaanhfcioemekaa", sum := "e105232b7d7235860d5e39f2bbb0b235bf4512368055178774d927816c5d4b69", checked := Try.checked }
namespace Rows
def none {H : Type} : Left H := { results := [], args := [] }

/-- 'carousellaw15.OptKnown': WHATEVER THE INPUT: true; the input reads as it did. -/
def optKnownSpec : ChangeSpec := { name := "optKnown", fn := fun _ => fun
  | [] => { results := [.lit (.bool true)], args := [] }
  | _ => none }
def optKnownRow : OpenClaim := { program := "ytaanhfcioemekaa", sum := "e105232b7d7235860d5e39f2bbb0b235bf4512368055178774d927816c5d4b69", func := "carousel/carousellaw15.OptKnown", spec := "optKnown", inPlace := ["math/bits.Add64", "math/bits.Sub64"], named := ["math/bits.divideError", "math/bits.overflowError"], apart := false }
def OptKnownSaid : Prop := optKnownRow.holds Try.pinned (OpenSpec.ofChange optKnownSpec)

/-- ITS FALSE NEIGHBOUR: 'it returns false'. Refute it at one input. -/
def optKnownWrong : ChangeSpec := { name := "optKnown", fn := fun _ => fun
  | [] => { results := [.lit (.bool false)], args := [] }
  | _ => none }
def OptKnownWrongFalsely : Prop := optKnownRow.holds Try.pinned (OpenSpec.ofChange optKnownWrong)

/-- 'carousellaw15.OptSteps': WHATEVER THE INPUT: true; the input reads as it did. -/
def optStepsSpec : ChangeSpec := { name := "optSteps", fn := fun _ => fun
  | [d1, d2, d3, d4] => { results := [.lit (.bool true)], args := [d1, d2, d3, d4] }
  | _ => none }
def optStepsRow : OpenClaim := { program := "ytaanhfcioemekaa", sum := "e105232b7d7235860d5e39f2bbb0b235bf4512368055178774d927816c5d4b69", func := "carousel/carousellaw15.OptSteps", spec := "optSteps", inPlace := ["math/bits.Add64", "math/bits.Sub64"], named := ["math/bits.divideError", "math/bits.overflowError"], apart := false }
def OptStepsSaid : Prop := optStepsRow.holds Try.pinned (OpenSpec.ofChange optStepsSpec)

/-- ITS FALSE NEIGHBOUR: 'it returns false'. Refute it at one input. -/
def optStepsWrong : ChangeSpec := { name := "optSteps", fn := fun _ => fun
  | [d1, d2, d3, d4] => { results := [.lit (.bool false)], args := [d1, d2, d3, d4] }
  | _ => none }
def OptStepsWrongFalsely : Prop := optStepsRow.holds Try.pinned (OpenSpec.ofChange optStepsWrong)

/-- 'carousellaw15.OptStill': WHATEVER THE INPUT: true; the input reads as it did. -/
def optStillSpec : ChangeSpec := { name := "optStill", fn := fun _ => fun
  | [d1, d2, d3] => { results := [.lit (.bool true)], args := [d1, d2, d3] }
  | _ => none }
def optStillRow : OpenClaim := { program := "ytaanhfcioemekaa", sum := "e105232b7d7235860d5e39f2bbb0b235bf4512368055178774d927816c5d4b69", func := "carousel/carousellaw15.OptStill", spec := "optStill", inPlace := ["math/bits.Add64", "math/bits.Sub64"], named := ["math/bits.divideError", "math/bits.overflowError"], apart := false }
def OptStillSaid : Prop := optStillRow.holds Try.pinned (OpenSpec.ofChange optStillSpec)

/-- ITS FALSE NEIGHBOUR: 'it returns false'. Refute it at one input. -/
def optStillWrong : ChangeSpec := { name := "optStill", fn := fun _ => fun
  | [d1, d2, d3] => { results := [.lit (.bool false)], args := [d1, d2, d3] }
  | _ => none }
def OptStillWrongFalsely : Prop := optStillRow.holds Try.pinned (OpenSpec.ofChange optStillWrong)

/-- 'carousellaw15.OptBounds': WHATEVER THE INPUT: true; the input reads as it did. -/
def optBoundsSpec : ChangeSpec := { name := "optBounds", fn := fun _ => fun
  | [d1, d2, d3, d4] => { results := [.lit (.bool true)], args := [d1, d2, d3, d4] }
  | _ => none }
def optBoundsRow : OpenClaim := { program := "ytaanhfcioemekaa", sum := "e105232b7d7235860d5e39f2bbb0b235bf4512368055178774d927816c5d4b69", func := "carousel/carousellaw15.OptBounds", spec := "optBounds", inPlace := ["math/bits.Add64", "math/bits.Sub64"], named := ["math/bits.divideError", "math/bits.overflowError"], apart := false }
def OptBoundsSaid : Prop := optBoundsRow.holds Try.pinned (OpenSpec.ofChange optBoundsSpec)

/-- ITS FALSE NEIGHBOUR: 'it returns false'. Refute it at one input. -/
def optBoundsWrong : ChangeSpec := { name := "optBounds", fn := fun _ => fun
  | [d1, d2, d3, d4] => { results := [.lit (.bool false)], args := [d1, d2, d3, d4] }
  | _ => none }
def OptBoundsWrongFalsely : Prop := optBoundsRow.holds Try.pinned (OpenSpec.ofChange optBoundsWrong)

/-- 'carousellaw15.OptAlone': WHATEVER THE INPUT: true; the input reads as it did. -/
def optAloneSpec : ChangeSpec := { name := "optAlone", fn := fun _ => fun
  | [d1, d2, d3, d4, d5] => { results := [.lit (.bool true)], args := [d1, d2, d3, d4, d5] }
  | _ => none }
def optAloneRow : OpenClaim := { program := "ytaanhfcioemekaa", sum := "e105232b7d7235860d5e39f2bbb0b235bf4512368055178774d927816c5d4b69", func := "carousel/carousellaw15.OptAlone", spec := "optAlone", inPlace := ["math/bits.Add64", "math/bits.Sub64"], named := ["math/bits.divideError", "math/bits.overflowError"], apart := false }
def OptAloneSaid : Prop := optAloneRow.holds Try.pinned (OpenSpec.ofChange optAloneSpec)

/-- ITS FALSE NEIGHBOUR: 'it returns false'. Refute it at one input. -/
def optAloneWrong : ChangeSpec := { name := "optAlone", fn := fun _ => fun
  | [d1, d2, d3, d4, d5] => { results := [.lit (.bool false)], args := [d1, d2, d3, d4, d5] }
  | _ => none }
def OptAloneWrongFalsely : Prop := optAloneRow.holds Try.pinned (OpenSpec.ofChange optAloneWrong)

/-- 'carousellaw15.OptMeans': WHATEVER THE INPUT: true; the input reads as it did. -/
def optMeansSpec : ChangeSpec := { name := "optMeans", fn := fun _ => fun
  | [d1, d2, d3, d4, d5] => { results := [.lit (.bool true)], args := [d1, d2, d3, d4, d5] }
  | _ => none }
def optMeansRow : OpenClaim := { program := "ytaanhfcioemekaa", sum := "e105232b7d7235860d5e39f2bbb0b235bf4512368055178774d927816c5d4b69", func := "carousel/carousellaw15.OptMeans", spec := "optMeans", inPlace := ["math/bits.Add64", "math/bits.Sub64"], named := ["math/bits.divideError", "math/bits.overflowError"], apart := false }
def OptMeansSaid : Prop := optMeansRow.holds Try.pinned (OpenSpec.ofChange optMeansSpec)

/-- ITS FALSE NEIGHBOUR: 'it returns false'. Refute it at one input. -/
def optMeansWrong : ChangeSpec := { name := "optMeans", fn := fun _ => fun
  | [d1, d2, d3, d4, d5] => { results := [.lit (.bool false)], args := [d1, d2, d3, d4, d5] }
  | _ => none }
def OptMeansWrongFalsely : Prop := optMeansRow.holds Try.pinned (OpenSpec.ofChange optMeansWrong)

/- THE SECOND FORM. 'bulk': how many values and letters a reading holds, each counted each time it is reached (what is shared counts as often as it is met; a slice's spare places count too). A statement '..UptoSaid' is the law's where the arguments, and the package variables that the reading takes, are together of bulk at most 1048576: NARROWER than '..Said'. Prove '..Said' where nothing that the law and all that it calls make is longer than what came in: it says more and counts as full. Else prove '..UptoSaid'. A law counts once. -/
mutual
def uptoBulk {H : Type} : DataW H → Nat
  | .lit (.string bytes) => bytes.length + 1
  | .lit _ => 1
  | .nil => 1
  | .ptr d => uptoBulk d + 1
  | .slice elems spare => uptoBulkAll elems + uptoBulkAll spare + 1
  | .agg parts => uptoBulkAll parts + 1
  | .iface _ d => uptoBulk d + 1
  | .map entries => uptoBulkEntries entries + 1
  | .held _ => 1
def uptoBulkAll {H : Type} : List (DataW H) → Nat
  | [] => 0
  | d :: r => uptoBulk d + uptoBulkAll r
def uptoBulkEntries {H : Type} : List (Lit × DataW H) → Nat
  | [] => 0
  | x :: r => uptoBulkEntry x + uptoBulkEntries r
def uptoBulkEntry {H : Type} : Lit × DataW H → Nat
  | (.string bytes, d) => bytes.length + uptoBulk d + 1
  | (_, d) => uptoBulk d + 1
 end
def uptoSmall : (H : Type) → List (DataW H) → Bool := fun _ ds => decide (uptoBulkAll ds ≤ 1048576)
def OpenSpec.upto (s : _root_.Go.ChangeSpec) : _root_.Go.OpenSpec := { _root_.Go.OpenSpec.ofChange s with cond := some uptoSmall }

/-- 'carousellaw15.OptKnown', WHERE WHAT IT READS IS OF BULK AT MOST 1048576: true; the input reads as it did. -/
def optKnownUptoRow : OpenClaim := { program := "ytaanhfcioemekaa", sum := "e105232b7d7235860d5e39f2bbb0b235bf4512368055178774d927816c5d4b69", func := "carousel/carousellaw15.OptKnown", spec := "optKnown", inPlace := ["math/bits.Add64", "math/bits.Sub64"], named := ["math/bits.divideError", "math/bits.overflowError"], apart := false, narrowed := true }
def OptKnownUptoSaid : Prop := optKnownUptoRow.holds Try.pinned (OpenSpec.upto optKnownSpec)

/-- 'carousellaw15.OptSteps', WHERE WHAT IT READS IS OF BULK AT MOST 1048576: true; the input reads as it did. -/
def optStepsUptoRow : OpenClaim := { program := "ytaanhfcioemekaa", sum := "e105232b7d7235860d5e39f2bbb0b235bf4512368055178774d927816c5d4b69", func := "carousel/carousellaw15.OptSteps", spec := "optSteps", inPlace := ["math/bits.Add64", "math/bits.Sub64"], named := ["math/bits.divideError", "math/bits.overflowError"], apart := false, narrowed := true }
def OptStepsUptoSaid : Prop := optStepsUptoRow.holds Try.pinned (OpenSpec.upto optStepsSpec)

/-- 'carousellaw15.OptStill', WHERE WHAT IT READS IS OF BULK AT MOST 1048576: true; the input reads as it did. -/
def optStillUptoRow : OpenClaim := { program := "ytaanhfcioemekaa", sum := "e105232b7d7235860d5e39f2bbb0b235bf4512368055178774d927816c5d4b69", func := "carousel/carousellaw15.OptStill", spec := "optStill", inPlace := ["math/bits.Add64", "math/bits.Sub64"], named := ["math/bits.divideError", "math/bits.overflowError"], apart := false, narrowed := true }
def OptStillUptoSaid : Prop := optStillUptoRow.holds Try.pinned (OpenSpec.upto optStillSpec)

/-- 'carousellaw15.OptBounds', WHERE WHAT IT READS IS OF BULK AT MOST 1048576: true; the input reads as it did. -/
def optBoundsUptoRow : OpenClaim := { program := "ytaanhfcioemekaa", sum := "e105232b7d7235860d5e39f2bbb0b235bf4512368055178774d927816c5d4b69", func := "carousel/carousellaw15.OptBounds", spec := "optBounds", inPlace := ["math/bits.Add64", "math/bits.Sub64"], named := ["math/bits.divideError", "math/bits.overflowError"], apart := false, narrowed := true }
def OptBoundsUptoSaid : Prop := optBoundsUptoRow.holds Try.pinned (OpenSpec.upto optBoundsSpec)

/-- 'carousellaw15.OptAlone', WHERE WHAT IT READS IS OF BULK AT MOST 1048576: true; the input reads as it did. -/
def optAloneUptoRow : OpenClaim := { program := "ytaanhfcioemekaa", sum := "e105232b7d7235860d5e39f2bbb0b235bf4512368055178774d927816c5d4b69", func := "carousel/carousellaw15.OptAlone", spec := "optAlone", inPlace := ["math/bits.Add64", "math/bits.Sub64"], named := ["math/bits.divideError", "math/bits.overflowError"], apart := false, narrowed := true }
def OptAloneUptoSaid : Prop := optAloneUptoRow.holds Try.pinned (OpenSpec.upto optAloneSpec)

/-- 'carousellaw15.OptMeans', WHERE WHAT IT READS IS OF BULK AT MOST 1048576: true; the input reads as it did. -/
def optMeansUptoRow : OpenClaim := { program := "ytaanhfcioemekaa", sum := "e105232b7d7235860d5e39f2bbb0b235bf4512368055178774d927816c5d4b69", func := "carousel/carousellaw15.OptMeans", spec := "optMeans", inPlace := ["math/bits.Add64", "math/bits.Sub64"], named := ["math/bits.divideError", "math/bits.overflowError"], apart := false, narrowed := true }
def OptMeansUptoSaid : Prop := optMeansUptoRow.holds Try.pinned (OpenSpec.upto optMeansSpec)

end Rows
end Go.Proofs.Ytaanhfcioemekaa
