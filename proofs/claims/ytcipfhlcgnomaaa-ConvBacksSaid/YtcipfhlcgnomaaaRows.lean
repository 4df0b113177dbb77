/-
  No cell of these rows narrows 'for every input' (looked for: loops, veiled, ifaces, maps, wideKeys, modest, calm, conditions, laid).
  DERIVED. THE GIVEN ROWS OF THIS SEAT. 8 by the template 'for every input the law returns true; each argument reads behind the call as it read before'; 0 by the template 'total and deterministic' (their statements: YtcipfhlcgnomaaaTotals.lean).
  GIVEN WITH THE SEED: the statements are not yours to turn. If you find one false, say at which input.
  Laid BY PROGRAM, IN A SANDBOX (cutbox-rows.mjs): the forced cells as the released guide's own fill.sh prints them over the translation c63bf20d0513f333… (all of the seat's roots in one cut). By AI agents, Wed Nov 11 2026. No macro, syntax, notation, axiom, sorry.
-/
import Derived.Test.YtcipfhlcgnomaaaChecked
import GoSem.Claim
import GoSem.ClaimJoined
import GoSem.ClaimMapViews
import Derived.JoinedTies
import Derived.KernelRfl
namespace Go.Proofs.Ytcipfhlcgnomaaa
/- THE CELL 'sum', in the pinned program and in every row, IS THE sha256 OF THE DUMP (.gsa) THAT YtcipfhlcgnomaaaProg.lean LOADS. Nothing in Lean hashes anything: it is a label: what it is worth is what the hold of that sum in a sandbox is worth. -/
noncomputable def Try.pinned : Pinned := { name := "ytcipfhlcgnomaaa", sum := "c63bf20d0513f33356503104d058d4bfde81fc46b42ff1b166e028a85b6978ef", checked := Try.checked }
namespace Rows
def none {H : Type} : Left H := { results := [], args := [] }

/-- 'carousellaw8.ConvRows': WHATEVER THE INPUT: true; the input reads as it did. -/
def convRowsSpec : ChangeSpec := { name := "convRows", fn := fun _ => fun
  | [d1, d2, d3] => { results := [.lit (.bool true)], args := [d1, d2, d3] }
  | _ => none }
def convRowsRow : OpenClaim := { program := "ytcipfhlcgnomaaa", sum := "c63bf20d0513f33356503104d058d4bfde81fc46b42ff1b166e028a85b6978ef", func := "carousel/carousellaw8.ConvRows", spec := "convRows", inPlace := ["math/bits.Sub64", "math/bits.Add64"], apart := false }
def ConvRowsSaid : Prop := convRowsRow.holds Try.pinned (OpenSpec.ofChange convRowsSpec)

/-- ITS FALSE NEIGHBOUR: 'it returns false'. Refute it at one input. -/
def convRowsWrong : ChangeSpec := { name := "convRows", fn := fun _ => fun
  | [d1, d2, d3] => { results := [.lit (.bool false)], args := [d1, d2, d3] }
  | _ => none }
def ConvRowsWrongFalsely : Prop := convRowsRow.holds Try.pinned (OpenSpec.ofChange convRowsWrong)

/-- 'carousellaw8.ConvShifts': WHATEVER THE INPUT: true; the input reads as it did. -/
def convShiftsSpec : ChangeSpec := { name := "convShifts", fn := fun _ => fun
  | [d1, d2, d3] => { results := [.lit (.bool true)], args := [d1, d2, d3] }
  | _ => none }
def convShiftsRow : OpenClaim := { program := "ytcipfhlcgnomaaa", sum := "c63bf20d0513f33356503104d058d4bfde81fc46b42ff1b166e028a85b6978ef", func := "carousel/carousellaw8.ConvShifts", spec := "convShifts", inPlace := ["math/bits.Sub64", "math/bits.Add64"], apart := false }
def ConvShiftsSaid : Prop := convShiftsRow.holds Try.pinned (OpenSpec.ofChange convShiftsSpec)

/-- ITS FALSE NEIGHBOUR: 'it returns false'. Refute it at one input. -/
def convShiftsWrong : ChangeSpec := { name := "convShifts", fn := fun _ => fun
  | [d1, d2, d3] => { results := [.lit (.bool false)], args := [d1, d2, d3] }
  | _ => none }
def ConvShiftsWrongFalsely : Prop := convShiftsRow.holds Try.pinned (OpenSpec.ofChange convShiftsWrong)

/-- 'carousellaw8.ConvWhole': WHATEVER THE INPUT: true; the input reads as it did. -/
def convWholeSpec : ChangeSpec := { name := "convWhole", fn := fun _ => fun
  | [d1, d2] => { results := [.lit (.bool true)], args := [d1, d2] }
  | _ => none }
def convWholeRow : OpenClaim := { program := "ytcipfhlcgnomaaa", sum := "c63bf20d0513f33356503104d058d4bfde81fc46b42ff1b166e028a85b6978ef", func := "carousel/carousellaw8.ConvWhole", spec := "convWhole", inPlace := ["math/bits.Sub64", "math/bits.Add64"], apart := false }
def ConvWholeSaid : Prop := convWholeRow.holds Try.pinned (OpenSpec.ofChange convWholeSpec)

/-- ITS FALSE NEIGHBOUR: 'it returns false'. Refute it at one input. -/
def convWholeWrong : ChangeSpec := { name := "convWhole", fn := fun _ => fun
  | [d1, d2] => { results := [.lit (.bool false)], args := [d1, d2] }
  | _ => none }
def ConvWholeWrongFalsely : Prop := convWholeRow.holds Try.pinned (OpenSpec.ofChange convWholeWrong)

/-- 'carousellaw8.ConvPools': WHATEVER THE INPUT: true; the input reads as it did. -/
def convPoolsSpec : ChangeSpec := { name := "convPools", fn := fun _ => fun
  | [d1, d2] => { results := [.lit (.bool true)], args := [d1, d2] }
  | _ => none }
def convPoolsRow : OpenClaim := { program := "ytcipfhlcgnomaaa", sum := "c63bf20d0513f33356503104d058d4bfde81fc46b42ff1b166e028a85b6978ef", func := "carousel/carousellaw8.ConvPools", spec := "convPools", inPlace := ["math/bits.Sub64", "math/bits.Add64"], apart := false }
def ConvPoolsSaid : Prop := convPoolsRow.holds Try.pinned (OpenSpec.ofChange convPoolsSpec)

/-- ITS FALSE NEIGHBOUR: 'it returns false'. Refute it at one input. -/
def convPoolsWrong : ChangeSpec := { name := "convPools", fn := fun _ => fun
  | [d1, d2] => { results := [.lit (.bool false)], args := [d1, d2] }
  | _ => none }
def ConvPoolsWrongFalsely : Prop := convPoolsRow.holds Try.pinned (OpenSpec.ofChange convPoolsWrong)

/-- 'carousellaw8.ConvGreatest': WHATEVER THE INPUT: true; the input reads as it did. -/
def convGreatestSpec : ChangeSpec := { name := "convGreatest", fn := fun _ => fun
  | [d1, d2] => { results := [.lit (.bool true)], args := [d1, d2] }
  | _ => none }
def convGreatestRow : OpenClaim := { program := "ytcipfhlcgnomaaa", sum := "c63bf20d0513f33356503104d058d4bfde81fc46b42ff1b166e028a85b6978ef", func := "carousel/carousellaw8.ConvGreatest", spec := "convGreatest", inPlace := ["math/bits.Sub64", "math/bits.Add64"], apart := false }
def ConvGreatestSaid : Prop := convGreatestRow.holds Try.pinned (OpenSpec.ofChange convGreatestSpec)

/-- ITS FALSE NEIGHBOUR: 'it returns false'. Refute it at one input. -/
def convGreatestWrong : ChangeSpec := { name := "convGreatest", fn := fun _ => fun
  | [d1, d2] => { results := [.lit (.bool false)], args := [d1, d2] }
  | _ => none }
def ConvGreatestWrongFalsely : Prop := convGreatestRow.holds Try.pinned (OpenSpec.ofChange convGreatestWrong)

/-- 'carousellaw8.ConvOne': WHATEVER THE INPUT: true; the input reads as it did. -/
def convOneSpec : ChangeSpec := { name := "convOne", fn := fun _ => fun
  | [d] => { results := [.lit (.bool true)], args := [d] }
  | _ => none }
def convOneRow : OpenClaim := { program := "ytcipfhlcgnomaaa", sum := "c63bf20d0513f33356503104d058d4bfde81fc46b42ff1b166e028a85b6978ef", func := "carousel/carousellaw8.ConvOne", spec := "convOne", inPlace := ["math/bits.Sub64", "math/bits.Add64"], apart := false }
def ConvOneSaid : Prop := convOneRow.holds Try.pinned (OpenSpec.ofChange convOneSpec)

/-- ITS FALSE NEIGHBOUR: 'it returns false'. Refute it at one input. -/
def convOneWrong : ChangeSpec := { name := "convOne", fn := fun _ => fun
  | [d] => { results := [.lit (.bool false)], args := [d] }
  | _ => none }
def ConvOneWrongFalsely : Prop := convOneRow.holds Try.pinned (OpenSpec.ofChange convOneWrong)

/-- 'carousellaw8.ConvBacks': WHATEVER THE INPUT: true; the input reads as it did. -/
def convBacksSpec : ChangeSpec := { name := "convBacks", fn := fun _ => fun
  | [d1, d2, d3, d4] => { results := [.lit (.bool true)], args := [d1, d2, d3, d4] }
  | _ => none }
def convBacksRow : OpenClaim := { program := "ytcipfhlcgnomaaa", sum := "c63bf20d0513f33356503104d058d4bfde81fc46b42ff1b166e028a85b6978ef", func := "carousel/carousellaw8.ConvBacks", spec := "convBacks", inPlace := ["math/bits.Sub64", "math/bits.Add64"], apart := false }
def ConvBacksSaid : Prop := convBacksRow.holds Try.pinned (OpenSpec.ofChange convBacksSpec)

/-- ITS FALSE NEIGHBOUR: 'it returns false'. Refute it at one input. -/
def convBacksWrong : ChangeSpec := { name := "convBacks", fn := fun _ => fun
  | [d1, d2, d3, d4] => { results := [.lit (.bool false)], args := [d1, d2, d3, d4] }
  | _ => none }
def ConvBacksWrongFalsely : Prop := convBacksRow.holds Try.pinned (OpenSpec.ofChange convBacksWrong)

/-- 'carousellaw8.ConvKnown': WHATEVER THE INPUT: true; the input reads as it did. -/
def convKnownSpec : ChangeSpec := { name := "convKnown", fn := fun _ => fun
  | [] => { results := [.lit (.bool true)], args := [] }
  | _ => none }
def convKnownRow : OpenClaim := { program := "ytcipfhlcgnomaaa", sum := "c63bf20d0513f33356503104d058d4bfde81fc46b42ff1b166e028a85b6978ef", func := "carousel/carousellaw8.ConvKnown", spec := "convKnown", inPlace := ["math/bits.Sub64", "math/bits.Add64"], apart := false }
def ConvKnownSaid : Prop := convKnownRow.holds Try.pinned (OpenSpec.ofChange convKnownSpec)

/-- ITS FALSE NEIGHBOUR: 'it returns false'. Refute it at one input. -/
def convKnownWrong : ChangeSpec := { name := "convKnown", fn := fun _ => fun
  | [] => { results := [.lit (.bool false)], args := [] }
  | _ => none }
def ConvKnownWrongFalsely : Prop := convKnownRow.holds Try.pinned (OpenSpec.ofChange convKnownWrong)

/- THE SECOND FORM. 'bulk': how many values and letters a reading holds, each counted each time it is reached (what is shared counts as often as it is met; a slice's spare places count too). A statement '..UptoSaid' is the law's where the arguments, and the package variables that the reading takes, are together of bulk at most 1048576: NARROWER than '..Said'. Prove '..Said' where nothing that the law and all that it calls make is longer than what came in: it says more and counts as full. Else prove '..UptoSaid'. A law counts once. -/
mutual
def uptoBulk {H : Type} : DataW H → Nat
  | .lit (.string bytes) => bytes.length + 1
  | .lit _ => 1
  | .nil => 1
  | .ptr d => uptoBulk d + 1
  | .slice elems spare => uptoBulkAll elems + uptoBulkAll spare + 1
  | .agg parts => uptoBulkAll parts + 1
  | .iface _ d => uptoBulk d + 1
  | .map entries => uptoBulkEntries entries + 1
  | .held _ => 1
def uptoBulkAll {H : Type} : List (DataW H) → Nat
  | [] => 0
  | d :: r => uptoBulk d + uptoBulkAll r
def uptoBulkEntries {H : Type} : List (Lit × DataW H) → Nat
  | [] => 0
  | x :: r => uptoBulkEntry x + uptoBulkEntries r
def uptoBulkEntry {H : Type} : Lit × DataW H → Nat
  | (.string bytes, d) => bytes.length + uptoBulk d + 1
  | (_, d) => uptoBulk d + 1
 end
def uptoSmall : (H : Type) → List (DataW H) → Bool := fun _ ds => decide (uptoBulkAll ds ≤ 1048576)
def OpenSpec.upto (s : _root_.Go.ChangeSpec) : _root_.Go.OpenSpec := { _root_.Go.OpenSpec.ofChange s with cond := some uptoSmall }

/-- 'carousellaw8.ConvRows', WHERE WHAT IT READS IS OF BULK AT MOST 1048576: true; the input reads as it did. -/
def convRowsUptoRow : OpenClaim := { program := "ytcipfhlcgnomaaa", sum := "c63bf20d0513f33356503104d058d4bfde81fc46b42ff1b166e028a85b6978ef", func := "carousel/carousellaw8.ConvRows", spec := "convRows", inPlace := ["math/bits.Sub64", "math/bits.Add64"], apart := false, narrowed := true }
def ConvRowsUptoSaid : Prop := convRowsUptoRow.holds Try.pinned (OpenSpec.upto convRowsSpec)

/-- 'carousellaw8.ConvShifts', WHERE WHAT IT READS IS OF BULK AT MOST 1048576: true; the input reads as it did. -/
def convShiftsUptoRow : OpenClaim := { program := "ytcipfhlcgnomaaa", sum := "c63bf20d0513f33356503104d058d4bfde81fc46b42ff1b166e028a85b6978ef", func := "carousel/carousellaw8.ConvShifts", spec := "convShifts", inPlace := ["math/bits.Sub64", "math/bits.Add64"], apart := false, narrowed := true }
def ConvShiftsUptoSaid : Prop := convShiftsUptoRow.holds Try.pinned (OpenSpec.upto convShiftsSpec)

/-- 'carousellaw8.ConvWhole', WHERE WHAT IT READS IS OF BULK AT MOST 1048576: true; the input reads as it did. -/
def convWholeUptoRow : OpenClaim := { program := "ytcipfhlcgnomaaa", sum := "c63bf20d0513f33356503104d058d4bfde81fc46b42ff1b166e028a85b6978ef", func := "carousel/carousellaw8.ConvWhole", spec := "convWhole", inPlace := ["math/bits.Sub64", "math/bits.Add64"], apart := false, narrowed := true }
def ConvWholeUptoSaid : Prop := convWholeUptoRow.holds Try.pinned (OpenSpec.upto convWholeSpec)

/-- 'carousellaw8.ConvPools', WHERE WHAT IT READS IS OF BULK AT MOST 1048576: true; the input reads as it did. -/
def convPoolsUptoRow : OpenClaim := { program := "ytcipfhlcgnomaaa", sum := "c63bf20d0513f33356503104d058d4bfde81fc46b42ff1b166e028a85b6978ef", func := "carousel/carousellaw8.ConvPools", spec := "convPools", inPlace := ["math/bits.Sub64", "math/bits.Add64"], apart := false, narrowed := true }
def ConvPoolsUptoSaid : Prop := convPoolsUptoRow.holds Try.pinned (OpenSpec.upto convPoolsSpec)

/-- 'carousellaw8.ConvGreatest', WHERE WHAT IT READS IS OF BULK AT MOST 1048576: true; the input reads as it did. -/
def convGreatestUptoRow : OpenClaim := { program := "ytcipfhlcgnomaaa", sum := "c63bf20d0513f33356503104d058d4bfde81fc46b42ff1b166e028a85b6978ef", func := "carousel/carousellaw8.ConvGreatest", spec := "convGreatest", inPlace := ["math/bits.Sub64", "math/bits.Add64"], apart := false, narrowed := true }
def ConvGreatestUptoSaid : Prop := convGreatestUptoRow.holds Try.pinned (OpenSpec.upto convGreatestSpec)

/-- 'carousellaw8.ConvOne', WHERE WHAT IT READS IS OF BULK AT MOST 1048576: true; the input reads as it did. -/
def convOneUptoRow : OpenClaim := { program := "ytcipfhlcgnomaaa", sum := "c63bf20d0513f33356503104d058d4bfde81fc46b42ff1b166e028a85b6978ef", func := "carousel/carousellaw8.ConvOne", spec := "convOne", inPlace := ["math/bits.Sub64", "math/bits.Add64"], apart := false, narrowed := true }
def ConvOneUptoSaid : Prop := convOneUptoRow.holds Try.pinned (OpenSpec.upto convOneSpec)

/-- 'carousellaw8.ConvBacks', WHERE WHAT IT READS IS OF BULK AT MOST 1048576: true; the input reads as it did. -/
def convBacksUptoRow : OpenClaim := { program := "ytcipfhlcgnomaaa", sum := "c63bf20d0513f33356503104d058d4bfde81fc46b42ff1b166e028a85b6978ef", func := "carousel/carousellaw8.ConvBacks", spec := "convBacks", inPlace := ["math/bits.Sub64", "math/bits.Add64"], apart := false, narrowed := true }
def ConvBacksUptoSaid : Prop := convBacksUptoRow.holds Try.pinned (OpenSpec.upto convBacksSpec)

/-- 'carousellaw8.ConvKnown', WHERE WHAT IT READS IS OF BULK AT MOST 1048576: true; the input reads as it did. -/
def convKnownUptoRow : OpenClaim := { program := "ytcipfhlcgnomaaa", sum := "c63bf20d0513f33356503104d058d4bfde81fc46b42ff1b166e028a85b6978ef", func := "carousel/carousellaw8.ConvKnown", spec := "convKnown", inPlace := ["math/bits.Sub64", "math/bits.Add64"], apart := false, narrowed := true }
def ConvKnownUptoSaid : Prop := convKnownUptoRow.holds Try.pinned (OpenSpec.upto convKnownSpec)

end Rows
end Go.Proofs.Ytcipfhlcgnomaaa
