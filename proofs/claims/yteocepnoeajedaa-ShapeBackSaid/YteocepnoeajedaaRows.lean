/-
  No cell of these rows narrows 'for every input' (looked for: loops, veiled, ifaces, maps, wideKeys, modest, calm, conditions, laid).
  DERIVED. THE GIVEN ROWS OF THIS SEAT. 7 by the template 'for every input the law returns true; each argument reads behind the call as it read before'; 0 by the template 'total and deterministic' (their statements: YteocepnoeajedaaTotals.lean).
  GIVEN WITH THE SEED: the statements are not yours to turn. If you find one false, say at which input.
  Laid BY PROGRAM, IN A SANDBOX (cutbox-rows.mjs): the forced cells as the released guide's own fill.sh prints them over the translation dd43c5a6943442fa… (all of the seat's roots in one cut). By AI agents, Wed Nov 11 2026. No macro, syntax, notation, axiom, sorry.
-/
import Derived.Test.YteocepnoeajedaaChecked
import GoSem.Claim
import GoSem.ClaimJoined
import GoSem.ClaimMapViews
import Derived.JoinedTies
import Derived.KernelRfl
namespace Go.Proofs.Yteocepnoeajedaa
/- THE CELL 'sum', in the pinned program and in every row, IS THE sha256 OF THE DUMP (.gsa) THAT YteocepnoeajedaaProg.lean LOADS. Nothing in Lean hashes anything: it is a label: what it is worth is what the hold of that sum in a sandbox is worth. -/
noncomputable def Try.pinned : Pinned := { name := "yteocepnoeajedaa", sum := "dd43c5a6943442fab9d2b04e69b9d69886a0b8beb4d70d73c46327ac6b39fec1", checked := Try.checked }
namespace Rows
def none {H : Type} : Left H := { results := [], args := [] }

/-- 'carousellaw5.ShapeJoins': WHATEVER THE INPUT: true; the input reads as it did. -/
def shapeJoinsSpec : ChangeSpec := { name := "shapeJoins", fn := fun _ => fun
  | [d1, d2, d3] => { results := [.lit (.bool true)], args := [d1, d2, d3] }
  | _ => none }
def shapeJoinsRow : OpenClaim := { program := "yteocepnoeajedaa", sum := "dd43c5a6943442fab9d2b04e69b9d69886a0b8beb4d70d73c46327ac6b39fec1", func := "carousel/carousellaw5.ShapeJoins", spec := "shapeJoins", apart := false }
def ShapeJoinsSaid : Prop := shapeJoinsRow.holds Try.pinned (OpenSpec.ofChange shapeJoinsSpec)

/-- ITS FALSE NEIGHBOUR: 'it returns false'. Refute it at one input. -/
def shapeJoinsWrong : ChangeSpec := { name := "shapeJoins", fn := fun _ => fun
  | [d1, d2, d3] => { results := [.lit (.bool false)], args := [d1, d2, d3] }
  | _ => none }
def ShapeJoinsWrongFalsely : Prop := shapeJoinsRow.holds Try.pinned (OpenSpec.ofChange shapeJoinsWrong)

/-- 'carousellaw5.ShapeOrder': WHATEVER THE INPUT: true; the input reads as it did. -/
def shapeOrderSpec : ChangeSpec := { name := "shapeOrder", fn := fun _ => fun
  | [d1, d2] => { results := [.lit (.bool true)], args := [d1, d2] }
  | _ => none }
def shapeOrderRow : OpenClaim := { program := "yteocepnoeajedaa", sum := "dd43c5a6943442fab9d2b04e69b9d69886a0b8beb4d70d73c46327ac6b39fec1", func := "carousel/carousellaw5.ShapeOrder", spec := "shapeOrder", apart := false }
def ShapeOrderSaid : Prop := shapeOrderRow.holds Try.pinned (OpenSpec.ofChange shapeOrderSpec)

/-- ITS FALSE NEIGHBOUR: 'it returns false'. Refute it at one input. -/
def shapeOrderWrong : ChangeSpec := { name := "shapeOrder", fn := fun _ => fun
  | [d1, d2] => { results := [.lit (.bool false)], args := [d1, d2] }
  | _ => none }
def ShapeOrderWrongFalsely : Prop := shapeOrderRow.holds Try.pinned (OpenSpec.ofChange shapeOrderWrong)

/-- 'carousellaw5.ShapeEach': WHATEVER THE INPUT: true; the input reads as it did. -/
def shapeEachSpec : ChangeSpec := { name := "shapeEach", fn := fun _ => fun
  | [d1, d2] => { results := [.lit (.bool true)], args := [d1, d2] }
  | _ => none }
def shapeEachRow : OpenClaim := { program := "yteocepnoeajedaa", sum := "dd43c5a6943442fab9d2b04e69b9d69886a0b8beb4d70d73c46327ac6b39fec1", func := "carousel/carousellaw5.ShapeEach", spec := "shapeEach", apart := false }
def ShapeEachSaid : Prop := shapeEachRow.holds Try.pinned (OpenSpec.ofChange shapeEachSpec)

/-- ITS FALSE NEIGHBOUR: 'it returns false'. Refute it at one input. -/
def shapeEachWrong : ChangeSpec := { name := "shapeEach", fn := fun _ => fun
  | [d1, d2] => { results := [.lit (.bool false)], args := [d1, d2] }
  | _ => none }
def ShapeEachWrongFalsely : Prop := shapeEachRow.holds Try.pinned (OpenSpec.ofChange shapeEachWrong)

/-- 'carousellaw5.ShapeOnes': WHATEVER THE INPUT: true; the input reads as it did. -/
def shapeOnesSpec : ChangeSpec := { name := "shapeOnes", fn := fun _ => fun
  | [d1, d2] => { results := [.lit (.bool true)], args := [d1, d2] }
  | _ => none }
def shapeOnesRow : OpenClaim := { program := "yteocepnoeajedaa", sum := "dd43c5a6943442fab9d2b04e69b9d69886a0b8beb4d70d73c46327ac6b39fec1", func := "carousel/carousellaw5.ShapeOnes", spec := "shapeOnes", apart := false }
def ShapeOnesSaid : Prop := shapeOnesRow.holds Try.pinned (OpenSpec.ofChange shapeOnesSpec)

/-- ITS FALSE NEIGHBOUR: 'it returns false'. Refute it at one input. -/
def shapeOnesWrong : ChangeSpec := { name := "shapeOnes", fn := fun _ => fun
  | [d1, d2] => { results := [.lit (.bool false)], args := [d1, d2] }
  | _ => none }
def ShapeOnesWrongFalsely : Prop := shapeOnesRow.holds Try.pinned (OpenSpec.ofChange shapeOnesWrong)

/-- 'carousellaw5.ShapeKnown': WHATEVER THE INPUT: true; the input reads as it did. -/
def shapeKnownSpec : ChangeSpec := { name := "shapeKnown", fn := fun _ => fun
  | [] => { results := [.lit (.bool true)], args := [] }
  | _ => none }
def shapeKnownRow : OpenClaim := { program := "yteocepnoeajedaa", sum := "dd43c5a6943442fab9d2b04e69b9d69886a0b8beb4d70d73c46327ac6b39fec1", func := "carousel/carousellaw5.ShapeKnown", spec := "shapeKnown", apart := false }
def ShapeKnownSaid : Prop := shapeKnownRow.holds Try.pinned (OpenSpec.ofChange shapeKnownSpec)

/-- ITS FALSE NEIGHBOUR: 'it returns false'. Refute it at one input. -/
def shapeKnownWrong : ChangeSpec := { name := "shapeKnown", fn := fun _ => fun
  | [] => { results := [.lit (.bool false)], args := [] }
  | _ => none }
def ShapeKnownWrongFalsely : Prop := shapeKnownRow.holds Try.pinned (OpenSpec.ofChange shapeKnownWrong)

/-- 'carousellaw5.ShapeSays': WHATEVER THE INPUT: true; the input reads as it did. -/
def shapeSaysSpec : ChangeSpec := { name := "shapeSays", fn := fun _ => fun
  | [d1, d2, d3] => { results := [.lit (.bool true)], args := [d1, d2, d3] }
  | _ => none }
def shapeSaysRow : OpenClaim := { program := "yteocepnoeajedaa", sum := "dd43c5a6943442fab9d2b04e69b9d69886a0b8beb4d70d73c46327ac6b39fec1", func := "carousel/carousellaw5.ShapeSays", spec := "shapeSays", apart := false }
def ShapeSaysSaid : Prop := shapeSaysRow.holds Try.pinned (OpenSpec.ofChange shapeSaysSpec)

/-- ITS FALSE NEIGHBOUR: 'it returns false'. Refute it at one input. -/
def shapeSaysWrong : ChangeSpec := { name := "shapeSays", fn := fun _ => fun
  | [d1, d2, d3] => { results := [.lit (.bool false)], args := [d1, d2, d3] }
  | _ => none }
def ShapeSaysWrongFalsely : Prop := shapeSaysRow.holds Try.pinned (OpenSpec.ofChange shapeSaysWrong)

/-- 'carousellaw5.ShapeBack': WHATEVER THE INPUT: true; the input reads as it did. -/
def shapeBackSpec : ChangeSpec := { name := "shapeBack", fn := fun _ => fun
  | [d1, d2] => { results := [.lit (.bool true)], args := [d1, d2] }
  | _ => none }
def shapeBackRow : OpenClaim := { program := "yteocepnoeajedaa", sum := "dd43c5a6943442fab9d2b04e69b9d69886a0b8beb4d70d73c46327ac6b39fec1", func := "carousel/carousellaw5.ShapeBack", spec := "shapeBack", apart := false }
def ShapeBackSaid : Prop := shapeBackRow.holds Try.pinned (OpenSpec.ofChange shapeBackSpec)

/-- ITS FALSE NEIGHBOUR: 'it returns false'. Refute it at one input. -/
def shapeBackWrong : ChangeSpec := { name := "shapeBack", fn := fun _ => fun
  | [d1, d2] => { results := [.lit (.bool false)], args := [d1, d2] }
  | _ => none }
def ShapeBackWrongFalsely : Prop := shapeBackRow.holds Try.pinned (OpenSpec.ofChange shapeBackWrong)

/- THE SECOND FORM. 'bulk': how many values and letters a reading holds, each counted each time it is reached (what is shared counts as often as it is met; a slice's spare places count too). A statement '..UptoSaid' is the law's where the arguments, and the package variables that the reading takes, are together of bulk at most 1048576: NARROWER than '..Said'. Prove '..Said' where nothing that the law and all that it calls make is longer than what came in: it says more and counts as full. Else prove '..UptoSaid'. A law counts once. -/
mutual
def uptoBulk {H : Type} : DataW H → Nat
  | .lit (.string bytes) => bytes.length + 1
  | .lit _ => 1
  | .nil => 1
  | .ptr d => uptoBulk d + 1
  | .slice elems spare => uptoBulkAll elems + uptoBulkAll spare + 1
  | .agg parts => uptoBulkAll parts + 1
  | .iface _ d => uptoBulk d + 1
  | .map entries => uptoBulkEntries entries + 1
  | .held _ => 1
def uptoBulkAll {H : Type} : List (DataW H) → Nat
  | [] => 0
  | d :: r => uptoBulk d + uptoBulkAll r
def uptoBulkEntries {H : Type} : List (Lit × DataW H) → Nat
  | [] => 0
  | x :: r => uptoBulkEntry x + uptoBulkEntries r
def uptoBulkEntry {H : Type} : Lit × DataW H → Nat
  | (.string bytes, d) => bytes.length + uptoBulk d + 1
  | (_, d) => uptoBulk d + 1
 end
def uptoSmall : (H : Type) → List (DataW H) → Bool := fun _ ds => decide (uptoBulkAll ds ≤ 1048576)
def OpenSpec.upto (s : _root_.Go.ChangeSpec) : _root_.Go.OpenSpec := { _root_.Go.OpenSpec.ofChange s with cond := some uptoSmall }

/-- 'carousellaw5.ShapeJoins', WHERE WHAT IT READS IS OF BULK AT MOST 1048576: true; the input reads as it did. -/
def shapeJoinsUptoRow : OpenClaim := { program := "yteocepnoeajedaa", sum := "dd43c5a6943442fab9d2b04e69b9d69886a0b8beb4d70d73c46327ac6b39fec1", func := "carousel/carousellaw5.ShapeJoins", spec := "shapeJoins", apart := false, narrowed := true }
def ShapeJoinsUptoSaid : Prop := shapeJoinsUptoRow.holds Try.pinned (OpenSpec.upto shapeJoinsSpec)

/-- 'carousellaw5.ShapeOrder', WHERE WHAT IT READS IS OF BULK AT MOST 1048576: true; the input reads as it did. -/
def shapeOrderUptoRow : OpenClaim := { program := "yteocepnoeajedaa", sum := "dd43c5a6943442fab9d2b04e69b9d69886a0b8beb4d70d73c46327ac6b39fec1", func := "carousel/carousellaw5.ShapeOrder", spec := "shapeOrder", apart := false, narrowed := true }
def ShapeOrderUptoSaid : Prop := shapeOrderUptoRow.holds Try.pinned (OpenSpec.upto shapeOrderSpec)

/-- 'carousellaw5.ShapeEach', WHERE WHAT IT READS IS OF BULK AT MOST 1048576: true; the input reads as it did. -/
def shapeEachUptoRow : OpenClaim := { program := "yteocepnoeajedaa", sum := "dd43c5a6943442fab9d2b04e69b9d69886a0b8beb4d70d73c46327ac6b39fec1", func := "carousel/carousellaw5.ShapeEach", spec := "shapeEach", apart := false, narrowed := true }
def ShapeEachUptoSaid : Prop := shapeEachUptoRow.holds Try.pinned (OpenSpec.upto shapeEachSpec)

/-- 'carousellaw5.ShapeOnes', WHERE WHAT IT READS IS OF BULK AT MOST 1048576: true; the input reads as it did. -/
def shapeOnesUptoRow : OpenClaim := { program := "yteocepnoeajedaa", sum := "dd43c5a6943442fab9d2b04e69b9d69886a0b8beb4d70d73c46327ac6b39fec1", func := "carousel/carousellaw5.ShapeOnes", spec := "shapeOnes", apart := false, narrowed := true }
def ShapeOnesUptoSaid : Prop := shapeOnesUptoRow.holds Try.pinned (OpenSpec.upto shapeOnesSpec)

/-- 'carousellaw5.ShapeKnown', WHERE WHAT IT READS IS OF BULK AT MOST 1048576: true; the input reads as it did. -/
def shapeKnownUptoRow : OpenClaim := { program := "yteocepnoeajedaa", sum := "dd43c5a6943442fab9d2b04e69b9d69886a0b8beb4d70d73c46327ac6b39fec1", func := "carousel/carousellaw5.ShapeKnown", spec := "shapeKnown", apart := false, narrowed := true }
def ShapeKnownUptoSaid : Prop := shapeKnownUptoRow.holds Try.pinned (OpenSpec.upto shapeKnownSpec)

/-- 'carousellaw5.ShapeSays', WHERE WHAT IT READS IS OF BULK AT MOST 1048576: true; the input reads as it did. -/
def shapeSaysUptoRow : OpenClaim := { program := "yteocepnoeajedaa", sum := "dd43c5a6943442fab9d2b04e69b9d69886a0b8beb4d70d73c46327ac6b39fec1", func := "carousel/carousellaw5.ShapeSays", spec := "shapeSays", apart := false, narrowed := true }
def ShapeSaysUptoSaid : Prop := shapeSaysUptoRow.holds Try.pinned (OpenSpec.upto shapeSaysSpec)

/-- 'carousellaw5.ShapeBack', WHERE WHAT IT READS IS OF BULK AT MOST 1048576: true; the input reads as it did. -/
def shapeBackUptoRow : OpenClaim := { program := "yteocepnoeajedaa", sum := "dd43c5a6943442fab9d2b04e69b9d69886a0b8beb4d70d73c46327ac6b39fec1", func := "carousel/carousellaw5.ShapeBack", spec := "shapeBack", apart := false, narrowed := true }
def ShapeBackUptoSaid : Prop := shapeBackUptoRow.holds Try.pinned (OpenSpec.upto shapeBackSpec)

end Rows
end Go.Proofs.Yteocepnoeajedaa
