/-
  No cell of these rows narrows 'for every input' (looked for: loops, veiled, ifaces, maps, wideKeys, modest, calm, conditions, laid).
  DERIVED. THE GIVEN ROWS OF THIS SEAT. 8 by the template 'for every input the law returns true; each argument reads behind the call as it read before'; 0 by the template 'total and deterministic' (their statements: YtalghnbolnimiaaTotals.lean).
  GIVEN WITH THE SEED: the statements are not yours to turn. If you find one false, say at which input.
  Laid BY PROGRAM, IN A SANDBOX (cutbox-rows.mjs): the forced cells as the released guide's own fill.sh prints them over the translation 7338db1ce06fbdec… (all of the seat's roots in one cut). By AI agents, Wed Nov 11 2026. No macro, syntax, notation, axiom, sorry.
-/
import Derived.Test.YtalghnbolnimiaaChecked
import GoSem.Claim
import GoSem.ClaimJoined
import GoSem.ClaimMapViews
import Derived.JoinedTies
import Derived.KernelRfl
namespace Go.Proofs.Ytalghnbolnimiaa
/- THE CELL 'sum', in the pinned program and in every row, IS THE sha256 OF THE DUMP (.gsa) THAT YtalghnbolnimiaaProg.lean LOADS. Nothing in Lean hashes anything: it is a label: what it is worth is what the hold of that sum in a sandbox is worth. -/
noncomputable def Try.pinned : Pinned := { name := "ytalghnbolnimiaa", sum := "7338db1ce06fbdec0eac70579b75e3faa3ab040665d90393e5743e53aa6ac50c", checked := Try.checked }
namespace Rows
def none {H : Type} : Left H := { results := [], args := [] }

/-- 'carousellaw2.WideProds': WHATEVER THE INPUT: true; the input reads as it did. -/
def wideProdsSpec : ChangeSpec := { name := "wideProds", fn := fun _ => fun
  | [d1, d2] => { results := [.lit (.bool true)], args := [d1, d2] }
  | _ => none }
def wideProdsRow : OpenClaim := { program := "ytalghnbolnimiaa", sum := "7338db1ce06fbdec0eac70579b75e3faa3ab040665d90393e5743e53aa6ac50c", func := "carousel/carousellaw2.WideProds", spec := "wideProds", inPlace := ["math/bits.Sub64", "math/bits.Add64"], apart := false }
def WideProdsSaid : Prop := wideProdsRow.holds Try.pinned (OpenSpec.ofChange wideProdsSpec)

/-- ITS FALSE NEIGHBOUR: 'it returns false'. Refute it at one input. -/
def wideProdsWrong : ChangeSpec := { name := "wideProds", fn := fun _ => fun
  | [d1, d2] => { results := [.lit (.bool false)], args := [d1, d2] }
  | _ => none }
def WideProdsWrongFalsely : Prop := wideProdsRow.holds Try.pinned (OpenSpec.ofChange wideProdsWrong)

/-- 'carousellaw2.WideOrder': WHATEVER THE INPUT: true; the input reads as it did. -/
def wideOrderSpec : ChangeSpec := { name := "wideOrder", fn := fun _ => fun
  | [d1, d2, d3] => { results := [.lit (.bool true)], args := [d1, d2, d3] }
  | _ => none }
def wideOrderRow : OpenClaim := { program := "ytalghnbolnimiaa", sum := "7338db1ce06fbdec0eac70579b75e3faa3ab040665d90393e5743e53aa6ac50c", func := "carousel/carousellaw2.WideOrder", spec := "wideOrder", inPlace := ["math/bits.Sub64", "math/bits.Add64"], apart := false }
def WideOrderSaid : Prop := wideOrderRow.holds Try.pinned (OpenSpec.ofChange wideOrderSpec)

/-- ITS FALSE NEIGHBOUR: 'it returns false'. Refute it at one input. -/
def wideOrderWrong : ChangeSpec := { name := "wideOrder", fn := fun _ => fun
  | [d1, d2, d3] => { results := [.lit (.bool false)], args := [d1, d2, d3] }
  | _ => none }
def WideOrderWrongFalsely : Prop := wideOrderRow.holds Try.pinned (OpenSpec.ofChange wideOrderWrong)

/-- 'carousellaw2.WideSums': WHATEVER THE INPUT: true; the input reads as it did. -/
def wideSumsSpec : ChangeSpec := { name := "wideSums", fn := fun _ => fun
  | [d1, d2] => { results := [.lit (.bool true)], args := [d1, d2] }
  | _ => none }
def wideSumsRow : OpenClaim := { program := "ytalghnbolnimiaa", sum := "7338db1ce06fbdec0eac70579b75e3faa3ab040665d90393e5743e53aa6ac50c", func := "carousel/carousellaw2.WideSums", spec := "wideSums", inPlace := ["math/bits.Sub64", "math/bits.Add64"], apart := false }
def WideSumsSaid : Prop := wideSumsRow.holds Try.pinned (OpenSpec.ofChange wideSumsSpec)

/-- ITS FALSE NEIGHBOUR: 'it returns false'. Refute it at one input. -/
def wideSumsWrong : ChangeSpec := { name := "wideSums", fn := fun _ => fun
  | [d1, d2] => { results := [.lit (.bool false)], args := [d1, d2] }
  | _ => none }
def WideSumsWrongFalsely : Prop := wideSumsRow.holds Try.pinned (OpenSpec.ofChange wideSumsWrong)

/-- 'carousellaw2.WideHalves': WHATEVER THE INPUT: true; the input reads as it did. -/
def wideHalvesSpec : ChangeSpec := { name := "wideHalves", fn := fun _ => fun
  | [d1, d2] => { results := [.lit (.bool true)], args := [d1, d2] }
  | _ => none }
def wideHalvesRow : OpenClaim := { program := "ytalghnbolnimiaa", sum := "7338db1ce06fbdec0eac70579b75e3faa3ab040665d90393e5743e53aa6ac50c", func := "carousel/carousellaw2.WideHalves", spec := "wideHalves", inPlace := ["math/bits.Sub64", "math/bits.Add64"], apart := false }
def WideHalvesSaid : Prop := wideHalvesRow.holds Try.pinned (OpenSpec.ofChange wideHalvesSpec)

/-- ITS FALSE NEIGHBOUR: 'it returns false'. Refute it at one input. -/
def wideHalvesWrong : ChangeSpec := { name := "wideHalves", fn := fun _ => fun
  | [d1, d2] => { results := [.lit (.bool false)], args := [d1, d2] }
  | _ => none }
def WideHalvesWrongFalsely : Prop := wideHalvesRow.holds Try.pinned (OpenSpec.ofChange wideHalvesWrong)

/-- 'carousellaw2.WideBack': WHATEVER THE INPUT: true; the input reads as it did. -/
def wideBackSpec : ChangeSpec := { name := "wideBack", fn := fun _ => fun
  | [d1, d2] => { results := [.lit (.bool true)], args := [d1, d2] }
  | _ => none }
def wideBackRow : OpenClaim := { program := "ytalghnbolnimiaa", sum := "7338db1ce06fbdec0eac70579b75e3faa3ab040665d90393e5743e53aa6ac50c", func := "carousel/carousellaw2.WideBack", spec := "wideBack", inPlace := ["math/bits.Sub64", "math/bits.Add64"], apart := false }
def WideBackSaid : Prop := wideBackRow.holds Try.pinned (OpenSpec.ofChange wideBackSpec)

/-- ITS FALSE NEIGHBOUR: 'it returns false'. Refute it at one input. -/
def wideBackWrong : ChangeSpec := { name := "wideBack", fn := fun _ => fun
  | [d1, d2] => { results := [.lit (.bool false)], args := [d1, d2] }
  | _ => none }
def WideBackWrongFalsely : Prop := wideBackRow.holds Try.pinned (OpenSpec.ofChange wideBackWrong)

/-- 'carousellaw2.WideReckons': WHATEVER THE INPUT: true; the input reads as it did. -/
def wideReckonsSpec : ChangeSpec := { name := "wideReckons", fn := fun _ => fun
  | [d1, d2, d3, d4] => { results := [.lit (.bool true)], args := [d1, d2, d3, d4] }
  | _ => none }
def wideReckonsRow : OpenClaim := { program := "ytalghnbolnimiaa", sum := "7338db1ce06fbdec0eac70579b75e3faa3ab040665d90393e5743e53aa6ac50c", func := "carousel/carousellaw2.WideReckons", spec := "wideReckons", inPlace := ["math/bits.Sub64", "math/bits.Add64"], named := ["math/bits.divideError", "math/bits.overflowError"], apart := false }
def WideReckonsSaid : Prop := wideReckonsRow.holds Try.pinned (OpenSpec.ofChange wideReckonsSpec)

/-- ITS FALSE NEIGHBOUR: 'it returns false'. Refute it at one input. -/
def wideReckonsWrong : ChangeSpec := { name := "wideReckons", fn := fun _ => fun
  | [d1, d2, d3, d4] => { results := [.lit (.bool false)], args := [d1, d2, d3, d4] }
  | _ => none }
def WideReckonsWrongFalsely : Prop := wideReckonsRow.holds Try.pinned (OpenSpec.ofChange wideReckonsWrong)

/-- 'carousellaw2.WideParts': WHATEVER THE INPUT: true; the input reads as it did. -/
def widePartsSpec : ChangeSpec := { name := "wideParts", fn := fun _ => fun
  | [d1, d2, d3] => { results := [.lit (.bool true)], args := [d1, d2, d3] }
  | _ => none }
def widePartsRow : OpenClaim := { program := "ytalghnbolnimiaa", sum := "7338db1ce06fbdec0eac70579b75e3faa3ab040665d90393e5743e53aa6ac50c", func := "carousel/carousellaw2.WideParts", spec := "wideParts", inPlace := ["math/bits.Sub64", "math/bits.Add64"], named := ["math/bits.divideError", "math/bits.overflowError"], apart := false }
def WidePartsSaid : Prop := widePartsRow.holds Try.pinned (OpenSpec.ofChange widePartsSpec)

/-- ITS FALSE NEIGHBOUR: 'it returns false'. Refute it at one input. -/
def widePartsWrong : ChangeSpec := { name := "wideParts", fn := fun _ => fun
  | [d1, d2, d3] => { results := [.lit (.bool false)], args := [d1, d2, d3] }
  | _ => none }
def WidePartsWrongFalsely : Prop := widePartsRow.holds Try.pinned (OpenSpec.ofChange widePartsWrong)

/-- 'carousellaw2.WideKnown': WHATEVER THE INPUT: true; the input reads as it did. -/
def wideKnownSpec : ChangeSpec := { name := "wideKnown", fn := fun _ => fun
  | [] => { results := [.lit (.bool true)], args := [] }
  | _ => none }
def wideKnownRow : OpenClaim := { program := "ytalghnbolnimiaa", sum := "7338db1ce06fbdec0eac70579b75e3faa3ab040665d90393e5743e53aa6ac50c", func := "carousel/carousellaw2.WideKnown", spec := "wideKnown", inPlace := ["math/bits.Sub64", "math/bits.Add64"], named := ["math/bits.divideError", "math/bits.overflowError"], apart := false }
def WideKnownSaid : Prop := wideKnownRow.holds Try.pinned (OpenSpec.ofChange wideKnownSpec)

/-- ITS FALSE NEIGHBOUR: 'it returns false'. Refute it at one input. -/
def wideKnownWrong : ChangeSpec := { name := "wideKnown", fn := fun _ => fun
  | [] => { results := [.lit (.bool false)], args := [] }
  | _ => none }
def WideKnownWrongFalsely : Prop := wideKnownRow.holds Try.pinned (OpenSpec.ofChange wideKnownWrong)

/- THE SECOND FORM. 'bulk': how many values and letters a reading holds, each counted each time it is reached (what is shared counts as often as it is met; a slice's spare places count too). A statement '..UptoSaid' is the law's where the arguments, and the package variables that the reading takes, are together of bulk at most 1048576: NARROWER than '..Said'. Prove '..Said' where nothing that the law and all that it calls make is longer than what came in: it says more and counts as full. Else prove '..UptoSaid'. A law counts once. -/
mutual
def uptoBulk {H : Type} : DataW H → Nat
  | .lit (.string bytes) => bytes.length + 1
  | .lit _ => 1
  | .nil => 1
  | .ptr d => uptoBulk d + 1
  | .slice elems spare => uptoBulkAll elems + uptoBulkAll spare + 1
  | .agg parts => uptoBulkAll parts + 1
  | .iface _ d => uptoBulk d + 1
  | .map entries => uptoBulkEntries entries + 1
  | .held _ => 1
def uptoBulkAll {H : Type} : List (DataW H) → Nat
  | [] => 0
  | d :: r => uptoBulk d + uptoBulkAll r
def uptoBulkEntries {H : Type} : List (Lit × DataW H) → Nat
  | [] => 0
  | x :: r => uptoBulkEntry x + uptoBulkEntries r
def uptoBulkEntry {H : Type} : Lit × DataW H → Nat
  | (.string bytes, d) => bytes.length + uptoBulk d + 1
  | (_, d) => uptoBulk d + 1
 end
def uptoSmall : (H : Type) → List (DataW H) → Bool := fun _ ds => decide (uptoBulkAll ds ≤ 1048576)
def OpenSpec.upto (s : _root_.Go.ChangeSpec) : _root_.Go.OpenSpec := { _root_.Go.OpenSpec.ofChange s with cond := some uptoSmall }

/-- 'carousellaw2.WideProds', WHERE WHAT IT READS IS OF BULK AT MOST 1048576: true; the input reads as it did. -/
def wideProdsUptoRow : OpenClaim := { program := "ytalghnbolnimiaa", sum := "7338db1ce06fbdec0eac70579b75e3faa3ab040665d90393e5743e53aa6ac50c", func := "carousel/carousellaw2.WideProds", spec := "wideProds", inPlace := ["math/bits.Sub64", "math/bits.Add64"], apart := false, narrowed := true }
def WideProdsUptoSaid : Prop := wideProdsUptoRow.holds Try.pinned (OpenSpec.upto wideProdsSpec)

/-- 'carousellaw2.WideOrder', WHERE WHAT IT READS IS OF BULK AT MOST 1048576: true; the input reads as it did. -/
def wideOrderUptoRow : OpenClaim := { program := "ytalghnbolnimiaa", sum := "7338db1ce06fbdec0eac70579b75e3faa3ab040665d90393e5743e53aa6ac50c", func := "carousel/carousellaw2.WideOrder", spec := "wideOrder", inPlace := ["math/bits.Sub64", "math/bits.Add64"], apart := false, narrowed := true }
def WideOrderUptoSaid : Prop := wideOrderUptoRow.holds Try.pinned (OpenSpec.upto wideOrderSpec)

/-- 'carousellaw2.WideSums', WHERE WHAT IT READS IS OF BULK AT MOST 1048576: true; the input reads as it did. -/
def wideSumsUptoRow : OpenClaim := { program := "ytalghnbolnimiaa", sum := "7338db1ce06fbdec0eac70579b75e3faa3ab040665d90393e5743e53aa6ac50c", func := "carousel/carousellaw2.WideSums", spec := "wideSums", inPlace := ["math/bits.Sub64", "math/bits.Add64"], apart := false, narrowed := true }
def WideSumsUptoSaid : Prop := wideSumsUptoRow.holds Try.pinned (OpenSpec.upto wideSumsSpec)

/-- 'carousellaw2.WideHalves', WHERE WHAT IT READS IS OF BULK AT MOST 1048576: true; the input reads as it did. -/
def wideHalvesUptoRow : OpenClaim := { program := "ytalghnbolnimiaa", sum := "7338db1ce06fbdec0eac70579b75e3faa3ab040665d90393e5743e53aa6ac50c", func := "carousel/carousellaw2.WideHalves", spec := "wideHalves", inPlace := ["math/bits.Sub64", "math/bits.Add64"], apart := false, narrowed := true }
def WideHalvesUptoSaid : Prop := wideHalvesUptoRow.holds Try.pinned (OpenSpec.upto wideHalvesSpec)

/-- 'carousellaw2.WideBack', WHERE WHAT IT READS IS OF BULK AT MOST 1048576: true; the input reads as it did. -/
def wideBackUptoRow : OpenClaim := { program := "ytalghnbolnimiaa", sum := "7338db1ce06fbdec0eac70579b75e3faa3ab040665d90393e5743e53aa6ac50c", func := "carousel/carousellaw2.WideBack", spec := "wideBack", inPlace := ["math/bits.Sub64", "math/bits.Add64"], apart := false, narrowed := true }
def WideBackUptoSaid : Prop := wideBackUptoRow.holds Try.pinned (OpenSpec.upto wideBackSpec)

/-- 'carousellaw2.WideReckons', WHERE WHAT IT READS IS OF BULK AT MOST 1048576: true; the input reads as it did. -/
def wideReckonsUptoRow : OpenClaim := { program := "ytalghnbolnimiaa", sum := "7338db1ce06fbdec0eac70579b75e3faa3ab040665d90393e5743e53aa6ac50c", func := "carousel/carousellaw2.WideReckons", spec := "wideReckons", inPlace := ["math/bits.Sub64", "math/bits.Add64"], named := ["math/bits.divideError", "math/bits.overflowError"], apart := false, narrowed := true }
def WideReckonsUptoSaid : Prop := wideReckonsUptoRow.holds Try.pinned (OpenSpec.upto wideReckonsSpec)

/-- 'carousellaw2.WideParts', WHERE WHAT IT READS IS OF BULK AT MOST 1048576: true; the input reads as it did. -/
def widePartsUptoRow : OpenClaim := { program := "ytalghnbolnimiaa", sum := "7338db1ce06fbdec0eac70579b75e3faa3ab040665d90393e5743e53aa6ac50c", func := "carousel/carousellaw2.WideParts", spec := "wideParts", inPlace := ["math/bits.Sub64", "math/bits.Add64"], named := ["math/bits.divideError", "math/bits.overflowError"], apart := false, narrowed := true }
def WidePartsUptoSaid : Prop := widePartsUptoRow.holds Try.pinned (OpenSpec.upto widePartsSpec)

/-- 'carousellaw2.WideKnown', WHERE WHAT IT READS IS OF BULK AT MOST 1048576: true; the input reads as it did. -/
def wideKnownUptoRow : OpenClaim := { program := "ytalghnbolnimiaa", sum := "7338db1ce06fbdec0eac70579b75e3faa3ab040665d90393e5743e53aa6ac50c", func := "carousel/carousellaw2.WideKnown", spec := "wideKnown", inPlace := ["math/bits.Sub64", "math/bits.Add64"], named := ["math/bits.divideError", "math/bits.overflowError"], apart := false, narrowed := true }
def WideKnownUptoSaid : Prop := wideKnownUptoRow.holds Try.pinned (OpenSpec.upto wideKnownSpec)

end Rows
end Go.Proofs.Ytalghnbolnimiaa
