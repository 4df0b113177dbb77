/-
  No cell of these rows narrows 'for every input' (looked for: loops, veiled, ifaces, maps, wideKeys, modest, calm, conditions, laid).
  DERIVED. THE GIVEN ROWS OF THIS SEAT. 8 by the template 'for every input the law returns true; each argument reads behind the call as it read before'; 0 by the template 'total and deterministic' (their statements: YtbdhabpplidgfaaTotals.lean).
  GIVEN WITH THE SEED: the statements are not yours to turn. If you find one false, say at which input.
  Laid BY PROGRAM, IN A SANDBOX (cutbox-rows.mjs): the forced cells as the released guide's own fill.sh prints them over the translation 60ba8c9180e1f76e… (all of the seat's roots in one cut). By AI agents, Wed Nov 11 2026. No macro, syntax, notation, axiom, sorry.
-/
import Derived.Test.YtbdhabpplidgfaaChecked
import GoSem.Claim
import GoSem.ClaimJoined
import GoSem.ClaimMapViews
import Derived.JoinedTies
import Derived.KernelRfl
namespace Go.Proofs.Ytbdhabpplidgfaa
/- THE CELL 'sum', in the pinned program and in every row, IS THE sha256 OF THE DUMP (.gsa) THAT YtbdhabpplidgfaaProg.lean LOADS. Nothing in Lean hashes anything: it is a label: what it is worth is what the hold of that sum in a sandbox is worth. -/
noncomputable def Try.pinned : Pinned := { name := "ytbdhabpplidgfaa", sum := "60ba8c9180e1f76e630973700d16eaf71c536f34956027d6d62e82e4d8aa3290", checked := Try.checked }
namespace Rows
def none {H : Type} : Left H := { results := [], args := [] }

/-- 'carousellaw6.TensNews': WHATEVER THE INPUT: true; the input reads as it did. -/
def tensNewsSpec : ChangeSpec := { name := "tensNews", fn := fun _ => fun
  | [d1, d2] => { results := [.lit (.bool true)], args := [d1, d2] }
  | _ => none }
def tensNewsRow : OpenClaim := { program := "ytbdhabpplidgfaa", sum := "60ba8c9180e1f76e630973700d16eaf71c536f34956027d6d62e82e4d8aa3290", func := "carousel/carousellaw6.TensNews", spec := "tensNews", apart := false }
def TensNewsSaid : Prop := tensNewsRow.holds Try.pinned (OpenSpec.ofChange tensNewsSpec)

/-- ITS FALSE NEIGHBOUR: 'it returns false'. Refute it at one input. -/
def tensNewsWrong : ChangeSpec := { name := "tensNews", fn := fun _ => fun
  | [d1, d2] => { results := [.lit (.bool false)], args := [d1, d2] }
  | _ => none }
def TensNewsWrongFalsely : Prop := tensNewsRow.holds Try.pinned (OpenSpec.ofChange tensNewsWrong)

/-- 'carousellaw6.TensKeeps': WHATEVER THE INPUT: true; the input reads as it did. -/
def tensKeepsSpec : ChangeSpec := { name := "tensKeeps", fn := fun _ => fun
  | [d1, d2] => { results := [.lit (.bool true)], args := [d1, d2] }
  | _ => none }
def tensKeepsRow : OpenClaim := { program := "ytbdhabpplidgfaa", sum := "60ba8c9180e1f76e630973700d16eaf71c536f34956027d6d62e82e4d8aa3290", func := "carousel/carousellaw6.TensKeeps", spec := "tensKeeps", unfollowed := true, recurses := true, apart := false }
def TensKeepsSaid : Prop := tensKeepsRow.holds Try.pinned (OpenSpec.ofChange tensKeepsSpec)

/-- ITS FALSE NEIGHBOUR: 'it returns false'. Refute it at one input. -/
def tensKeepsWrong : ChangeSpec := { name := "tensKeeps", fn := fun _ => fun
  | [d1, d2] => { results := [.lit (.bool false)], args := [d1, d2] }
  | _ => none }
def TensKeepsWrongFalsely : Prop := tensKeepsRow.holds Try.pinned (OpenSpec.ofChange tensKeepsWrong)

/-- 'carousellaw6.TensOrder': WHATEVER THE INPUT: true; the input reads as it did. -/
def tensOrderSpec : ChangeSpec := { name := "tensOrder", fn := fun _ => fun
  | [d1, d2] => { results := [.lit (.bool true)], args := [d1, d2] }
  | _ => none }
def tensOrderRow : OpenClaim := { program := "ytbdhabpplidgfaa", sum := "60ba8c9180e1f76e630973700d16eaf71c536f34956027d6d62e82e4d8aa3290", func := "carousel/carousellaw6.TensOrder", spec := "tensOrder", inPlace := ["math/bits.Add64"], unfollowed := true, recurses := true, apart := false }
def TensOrderSaid : Prop := tensOrderRow.holds Try.pinned (OpenSpec.ofChange tensOrderSpec)

/-- ITS FALSE NEIGHBOUR: 'it returns false'. Refute it at one input. -/
def tensOrderWrong : ChangeSpec := { name := "tensOrder", fn := fun _ => fun
  | [d1, d2] => { results := [.lit (.bool false)], args := [d1, d2] }
  | _ => none }
def TensOrderWrongFalsely : Prop := tensOrderRow.holds Try.pinned (OpenSpec.ofChange tensOrderWrong)

/-- 'carousellaw6.TensEach': WHATEVER THE INPUT: true; the input reads as it did. -/
def tensEachSpec : ChangeSpec := { name := "tensEach", fn := fun _ => fun
  | [d1, d2] => { results := [.lit (.bool true)], args := [d1, d2] }
  | _ => none }
def tensEachRow : OpenClaim := { program := "ytbdhabpplidgfaa", sum := "60ba8c9180e1f76e630973700d16eaf71c536f34956027d6d62e82e4d8aa3290", func := "carousel/carousellaw6.TensEach", spec := "tensEach", inPlace := ["math/bits.Add64"], unfollowed := true, recurses := true, apart := false }
def TensEachSaid : Prop := tensEachRow.holds Try.pinned (OpenSpec.ofChange tensEachSpec)

/-- ITS FALSE NEIGHBOUR: 'it returns false'. Refute it at one input. -/
def tensEachWrong : ChangeSpec := { name := "tensEach", fn := fun _ => fun
  | [d1, d2] => { results := [.lit (.bool false)], args := [d1, d2] }
  | _ => none }
def TensEachWrongFalsely : Prop := tensEachRow.holds Try.pinned (OpenSpec.ofChange tensEachWrong)

/-- 'carousellaw6.TensBack': WHATEVER THE INPUT: true; the input reads as it did. -/
def tensBackSpec : ChangeSpec := { name := "tensBack", fn := fun _ => fun
  | [d1, d2, d3] => { results := [.lit (.bool true)], args := [d1, d2, d3] }
  | _ => none }
def tensBackRow : OpenClaim := { program := "ytbdhabpplidgfaa", sum := "60ba8c9180e1f76e630973700d16eaf71c536f34956027d6d62e82e4d8aa3290", func := "carousel/carousellaw6.TensBack", spec := "tensBack", apart := false }
def TensBackSaid : Prop := tensBackRow.holds Try.pinned (OpenSpec.ofChange tensBackSpec)

/-- ITS FALSE NEIGHBOUR: 'it returns false'. Refute it at one input. -/
def tensBackWrong : ChangeSpec := { name := "tensBack", fn := fun _ => fun
  | [d1, d2, d3] => { results := [.lit (.bool false)], args := [d1, d2, d3] }
  | _ => none }
def TensBackWrongFalsely : Prop := tensBackRow.holds Try.pinned (OpenSpec.ofChange tensBackWrong)

/-- 'carousellaw6.TensNone': WHATEVER THE INPUT: true; the input reads as it did. -/
def tensNoneSpec : ChangeSpec := { name := "tensNone", fn := fun _ => fun
  | [d] => { results := [.lit (.bool true)], args := [d] }
  | _ => none }
def tensNoneRow : OpenClaim := { program := "ytbdhabpplidgfaa", sum := "60ba8c9180e1f76e630973700d16eaf71c536f34956027d6d62e82e4d8aa3290", func := "carousel/carousellaw6.TensNone", spec := "tensNone", inPlace := ["math/bits.Add64"], unfollowed := true, recurses := true, apart := false }
def TensNoneSaid : Prop := tensNoneRow.holds Try.pinned (OpenSpec.ofChange tensNoneSpec)

/-- ITS FALSE NEIGHBOUR: 'it returns false'. Refute it at one input. -/
def tensNoneWrong : ChangeSpec := { name := "tensNone", fn := fun _ => fun
  | [d] => { results := [.lit (.bool false)], args := [d] }
  | _ => none }
def TensNoneWrongFalsely : Prop := tensNoneRow.holds Try.pinned (OpenSpec.ofChange tensNoneWrong)

/-- 'carousellaw6.TensKnown': WHATEVER THE INPUT: true; the input reads as it did. -/
def tensKnownSpec : ChangeSpec := { name := "tensKnown", fn := fun _ => fun
  | [] => { results := [.lit (.bool true)], args := [] }
  | _ => none }
def tensKnownRow : OpenClaim := { program := "ytbdhabpplidgfaa", sum := "60ba8c9180e1f76e630973700d16eaf71c536f34956027d6d62e82e4d8aa3290", func := "carousel/carousellaw6.TensKnown", spec := "tensKnown", unfollowed := true, recurses := true, apart := false }
def TensKnownSaid : Prop := tensKnownRow.holds Try.pinned (OpenSpec.ofChange tensKnownSpec)

/-- ITS FALSE NEIGHBOUR: 'it returns false'. Refute it at one input. -/
def tensKnownWrong : ChangeSpec := { name := "tensKnown", fn := fun _ => fun
  | [] => { results := [.lit (.bool false)], args := [] }
  | _ => none }
def TensKnownWrongFalsely : Prop := tensKnownRow.holds Try.pinned (OpenSpec.ofChange tensKnownWrong)

/-- 'carousellaw6.TensTurns': WHATEVER THE INPUT: true; the input reads as it did. -/
def tensTurnsSpec : ChangeSpec := { name := "tensTurns", fn := fun _ => fun
  | [d1, d2, d3] => { results := [.lit (.bool true)], args := [d1, d2, d3] }
  | _ => none }
def tensTurnsRow : OpenClaim := { program := "ytbdhabpplidgfaa", sum := "60ba8c9180e1f76e630973700d16eaf71c536f34956027d6d62e82e4d8aa3290", func := "carousel/carousellaw6.TensTurns", spec := "tensTurns", inPlace := ["math/bits.Add64"], apart := false }
def TensTurnsSaid : Prop := tensTurnsRow.holds Try.pinned (OpenSpec.ofChange tensTurnsSpec)

/-- ITS FALSE NEIGHBOUR: 'it returns false'. Refute it at one input. -/
def tensTurnsWrong : ChangeSpec := { name := "tensTurns", fn := fun _ => fun
  | [d1, d2, d3] => { results := [.lit (.bool false)], args := [d1, d2, d3] }
  | _ => none }
def TensTurnsWrongFalsely : Prop := tensTurnsRow.holds Try.pinned (OpenSpec.ofChange tensTurnsWrong)

/- THE SECOND FORM. 'bulk': how many values and letters a reading holds, each counted each time it is reached (what is shared counts as often as it is met; a slice's spare places count too). A statement '..UptoSaid' is the law's where the arguments, and the package variables that the reading takes, are together of bulk at most 1048576: NARROWER than '..Said'. Prove '..Said' where nothing that the law and all that it calls make is longer than what came in: it says more and counts as full. Else prove '..UptoSaid'. A law counts once. -/
mutual
def uptoBulk {H : Type} : DataW H → Nat
  | .lit (.string bytes) => bytes.length + 1
  | .lit _ => 1
  | .nil => 1
  | .ptr d => uptoBulk d + 1
  | .slice elems spare => uptoBulkAll elems + uptoBulkAll spare + 1
  | .agg parts => uptoBulkAll parts + 1
  | .iface _ d => uptoBulk d + 1
  | .map entries => uptoBulkEntries entries + 1
  | .held _ => 1
def uptoBulkAll {H : Type} : List (DataW H) → Nat
  | [] => 0
  | d :: r => uptoBulk d + uptoBulkAll r
def uptoBulkEntries {H : Type} : List (Lit × DataW H) → Nat
  | [] => 0
  | x :: r => uptoBulkEntry x + uptoBulkEntries r
def uptoBulkEntry {H : Type} : Lit × DataW H → Nat
  | (.string bytes, d) => bytes.length + uptoBulk d + 1
  | (_, d) => uptoBulk d + 1
 end
def uptoSmall : (H : Type) → List (DataW H) → Bool := fun _ ds => decide (uptoBulkAll ds ≤ 1048576)
def OpenSpec.upto (s : _root_.Go.ChangeSpec) : _root_.Go.OpenSpec := { _root_.Go.OpenSpec.ofChange s with cond := some uptoSmall }

/-- 'carousellaw6.TensNews', WHERE WHAT IT READS IS OF BULK AT MOST 1048576: true; the input reads as it did. -/
def tensNewsUptoRow : OpenClaim := { program := "ytbdhabpplidgfaa", sum := "60ba8c9180e1f76e630973700d16eaf71c536f34956027d6d62e82e4d8aa3290", func := "carousel/carousellaw6.TensNews", spec := "tensNews", apart := false, narrowed := true }
def TensNewsUptoSaid : Prop := tensNewsUptoRow.holds Try.pinned (OpenSpec.upto tensNewsSpec)

/-- 'carousellaw6.TensKeeps', WHERE WHAT IT READS IS OF BULK AT MOST 1048576: true; the input reads as it did. -/
def tensKeepsUptoRow : OpenClaim := { program := "ytbdhabpplidgfaa", sum := "60ba8c9180e1f76e630973700d16eaf71c536f34956027d6d62e82e4d8aa3290", func := "carousel/carousellaw6.TensKeeps", spec := "tensKeeps", unfollowed := true, recurses := true, apart := false, narrowed := true }
def TensKeepsUptoSaid : Prop := tensKeepsUptoRow.holds Try.pinned (OpenSpec.upto tensKeepsSpec)

/-- 'carousellaw6.TensOrder', WHERE WHAT IT READS IS OF BULK AT MOST 1048576: true; the input reads as it did. -/
def tensOrderUptoRow : OpenClaim := { program := "ytbdhabpplidgfaa", sum := "60ba8c9180e1f76e630973700d16eaf71c536f34956027d6d62e82e4d8aa3290", func := "carousel/carousellaw6.TensOrder", spec := "tensOrder", inPlace := ["math/bits.Add64"], unfollowed := true, recurses := true, apart := false, narrowed := true }
def TensOrderUptoSaid : Prop := tensOrderUptoRow.holds Try.pinned (OpenSpec.upto tensOrderSpec)

/-- 'carousellaw6.TensEach', WHERE WHAT IT READS IS OF BULK AT MOST 1048576: true; the input reads as it did. -/
def tensEachUptoRow : OpenClaim := { program := "ytbdhabpplidgfaa", sum := "60ba8c9180e1f76e630973700d16eaf71c536f34956027d6d62e82e4d8aa3290", func := "carousel/carousellaw6.TensEach", spec := "tensEach", inPlace := ["math/bits.Add64"], unfollowed := true, recurses := true, apart := false, narrowed := true }
def TensEachUptoSaid : Prop := tensEachUptoRow.holds Try.pinned (OpenSpec.upto tensEachSpec)

/-- 'carousellaw6.TensBack', WHERE WHAT IT READS IS OF BULK AT MOST 1048576: true; the input reads as it did. -/
def tensBackUptoRow : OpenClaim := { program := "ytbdhabpplidgfaa", sum := "60ba8c9180e1f76e630973700d16eaf71c536f34956027d6d62e82e4d8aa3290", func := "carousel/carousellaw6.TensBack", spec := "tensBack", apart := false, narrowed := true }
def TensBackUptoSaid : Prop := tensBackUptoRow.holds Try.pinned (OpenSpec.upto tensBackSpec)

/-- 'carousellaw6.TensNone', WHERE WHAT IT READS IS OF BULK AT MOST 1048576: true; the input reads as it did. -/
def tensNoneUptoRow : OpenClaim := { program := "ytbdhabpplidgfaa", sum := "60ba8c9180e1f76e630973700d16eaf71c536f34956027d6d62e82e4d8aa3290", func := "carousel/carousellaw6.TensNone", spec := "tensNone", inPlace := ["math/bits.Add64"], unfollowed := true, recurses := true, apart := false, narrowed := true }
def TensNoneUptoSaid : Prop := tensNoneUptoRow.holds Try.pinned (OpenSpec.upto tensNoneSpec)

/-- 'carousellaw6.TensKnown', WHERE WHAT IT READS IS OF BULK AT MOST 1048576: true; the input reads as it did. -/
def tensKnownUptoRow : OpenClaim := { program := "ytbdhabpplidgfaa", sum := "60ba8c9180e1f76e630973700d16eaf71c536f34956027d6d62e82e4d8aa3290", func := "carousel/carousellaw6.TensKnown", spec := "tensKnown", unfollowed := true, recurses := true, apart := false, narrowed := true }
def TensKnownUptoSaid : Prop := tensKnownUptoRow.holds Try.pinned (OpenSpec.upto tensKnownSpec)

/-- 'carousellaw6.TensTurns', WHERE WHAT IT READS IS OF BULK AT MOST 1048576: true; the input reads as it did. -/
def tensTurnsUptoRow : OpenClaim := { program := "ytbdhabpplidgfaa", sum := "60ba8c9180e1f76e630973700d16eaf71c536f34956027d6d62e82e4d8aa3290", func := "carousel/carousellaw6.TensTurns", spec := "tensTurns", inPlace := ["math/bits.Add64"], apart := false, narrowed := true }
def TensTurnsUptoSaid : Prop := tensTurnsUptoRow.holds Try.pinned (OpenSpec.upto tensTurnsSpec)

end Rows
end Go.Proofs.Ytbdhabpplidgfaa
