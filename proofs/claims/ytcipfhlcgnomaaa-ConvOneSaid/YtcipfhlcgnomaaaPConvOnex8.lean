/- The functions that the law ConvOne reaches, as Lean functions, and that each call of the Go function does what its Lean function says, wherever that one answers. Written by a program of mine over the print of the kit; Lean checks it. -/
import Derived.Test.YtcipfhlcgnomaaaPConvOnex0
import Derived.Test.YtcipfhlcgnomaaaPConvOnex1
import Derived.Test.YtcipfhlcgnomaaaPConvOnex2
import Derived.Test.YtcipfhlcgnomaaaPConvOnex4
import Derived.Test.YtcipfhlcgnomaaaPConvOnex7
namespace Go.Proofs.Ytcipfhlcgnomaaa.PConvOne
open Go.RowKit Go.Proofs.YtcipfhlcgnomaaaW.PrintWords Go.Proofs.YtcipfhlcgnomaaaW.PrintLast Go.Proofs.YtcipfhlcgnomaaaW.PrintMore
attribute [local go_sem] max2_int min2_int max_two min_two max_three min_three max_four min_four   -- for this text's walks alone
set_option linter.unusedVariables false
set_option linter.unusedSimpArgs false

/-! ### conv_BackIn: function 22 -/
mutual
def conv_BackIn.j0 : Nat → Int → Int → Bool → List Int → List Int → List Int → List Int → Option (List Int × List Int × Int)
 | 0, _, _, _, _, _, _, _ => none
 | k + 1, x2, x3, x23, x258000, x258001, x259000, x259001 => if x23 = true then (some (([] : List Int), ([] : List Int), 1)) else (if (x258000.length : Int) = 2 then (if (x259000.length : Int) = 3 then (if 0 < (x259000.length : Int) then (if 0 < (x258000.length : Int) then (if (rd x259000 0) = (rd x258000 0) then (if 2 < (x259000.length : Int) then ((conv_windows.f x3 (rd x259000 2) x2).bind fun t267 => (if 1 < (x258000.length : Int) then (if t267 = (rd x258000 1) then (if 1 < (x259000.length : Int) then ((conv_of.f k (([rd x259000 1, x3] : List Int))).bind fun bt276 => (if bt276.2.2 = 0 then (conv_BackIn.l0 k x2 x3 (rd x259000 0) (rd x259000 1) (rd x259000 2) (rd x258000 1) (bt276.2.1.length : Int) 0 x258000 x258001 x259000 x259001 bt276.1 bt276.2.1) else (some (([] : List Int), ([] : List Int), bt276.2.2)))) else (none)) else (some (([] : List Int), ([] : List Int), 4))) else (none))) else (none)) else (some (([] : List Int), ([] : List Int), 4))) else (none)) else (none)) else (some (([] : List Int), ([] : List Int), 4))) else (some (([] : List Int), ([] : List Int), 4)))
def conv_BackIn.l0 : Nat → Int → Int → Int → Int → Int → Int → Int → Int → List Int → List Int → List Int → List Int → List Int → List Int → Option (List Int × List Int × Int)
 | 0, _, _, _, _, _, _, _, _, _, _, _, _, _, _ => none
 | k + 1, x2, x3, x10, x11, x12, x13, x109, x110, x258000, x258001, x259000, x259001, x284000, x284001 => if x110 < x109 then (if x3 = 0 then (none) else (conv_BackIn.l1 k x2 x3 x10 x11 x12 x13 x110 (wrap64 (Int.tdiv x110 x3)) (Int.tmod x110 x3) x109 x110 x10 0 x258000 x258001 x259000 x259001 x284000 x284001 0 0 0)) else (some (x284000, x284001, 0))
def conv_BackIn.l1 : Nat → Int → Int → Int → Int → Int → Int → Int → Int → Int → Int → Int → Int → Int → List Int → List Int → List Int → List Int → List Int → List Int → Int → Int → Int → Option (List Int × List Int × Int)
 | 0, _, _, _, _, _, _, _, _, _, _, _, _, _, _, _, _, _, _, _, _, _, _ => none
 | k + 1, x2, x3, x10, x11, x12, x13, x16, x17, x18, x109, x110, x119, x120, x258000, x258001, x259000, x259001, x284000, x284001, x285000, x285001, x285002 => if x120 < x119 then (conv_BackIn.l2 k x2 x3 x10 x11 x12 x13 x16 x17 x18 x120 x109 x110 x119 x120 (mn x12 (wrap64 (x18 + 1))) 0 x258000 x258001 x259000 x259001 x284000 x284001 x285000 x285001 x285002) else ((wide_Acc_Fix.f k x285000 x285001 x285002 32).bind fun t285 => (if 0 ≤ x16 then (if x16 < (x284001.length : Int) then (conv_BackIn.l0 k x2 x3 x10 x11 x12 x13 x109 (wrap64 (x110 + 1)) x258000 x258001 x259000 x259001 x284000 (x284001.set (x16 : Int).toNat t285)) else (none)) else (none)))
def conv_BackIn.l2 : Nat → Int → Int → Int → Int → Int → Int → Int → Int → Int → Int → Int → Int → Int → Int → Int → Int → List Int → List Int → List Int → List Int → List Int → List Int → Int → Int → Int → Option (List Int × List Int × Int)
 | 0, _, _, _, _, _, _, _, _, _, _, _, _, _, _, _, _, _, _, _, _, _, _, _, _, _ => none
 | k + 1, x2, x3, x10, x11, x12, x13, x16, x17, x18, x20, x109, x110, x119, x120, x126, x127, x258000, x258001, x259000, x259001, x284000, x284001, x285000, x285001, x285002 => if x127 < x126 then (if x2 = 0 then (none) else (if (Int.tmod (wrap64 (x18 - x127)) x2) = 0 then (if (wrap64 (Int.tdiv (wrap64 (x18 - x127)) x2)) < x13 then (if 0 ≤ (wrap64 ((wrap64 (x20 * x13)) + (wrap64 (Int.tdiv (wrap64 (x18 - x127)) x2)))) then (if (wrap64 ((wrap64 (x20 * x13)) + (wrap64 (Int.tdiv (wrap64 (x18 - x127)) x2)))) < (x258001.length : Int) then (if 0 ≤ (wrap64 ((wrap64 ((wrap64 ((wrap64 (x20 * x11)) + x17)) * x12)) + x127)) then (if (wrap64 ((wrap64 ((wrap64 ((wrap64 (x20 * x11)) + x17)) * x12)) + x127)) < (x259001.length : Int) then ((wide_Acc_Plus.f x285000 x285001 x285002 (rd x258001 (wrap64 ((wrap64 (x20 * x13)) + (wrap64 (Int.tdiv (wrap64 (x18 - x127)) x2))))) (rd x259001 (wrap64 ((wrap64 ((wrap64 ((wrap64 (x20 * x11)) + x17)) * x12)) + x127)))).bind fun bt289 => (conv_BackIn.l2 k x2 x3 x10 x11 x12 x13 x16 x17 x18 x20 x109 x110 x119 x120 x126 (wrap64 (x127 + 1)) x258000 x258001 x259000 x259001 x284000 x284001 bt289.1 bt289.2.1 bt289.2.2)) else (none)) else (none)) else (none)) else (none)) else (conv_BackIn.l2 k x2 x3 x10 x11 x12 x13 x16 x17 x18 x20 x109 x110 x119 x120 x126 (wrap64 (x127 + 1)) x258000 x258001 x259000 x259001 x284000 x284001 x285000 x285001 x285002)) else (conv_BackIn.l2 k x2 x3 x10 x11 x12 x13 x16 x17 x18 x20 x109 x110 x119 x120 x126 (wrap64 (x127 + 1)) x258000 x258001 x259000 x259001 x284000 x284001 x285000 x285001 x285002))) else (conv_BackIn.l1 k x2 x3 x10 x11 x12 x13 x16 x17 x18 x109 x110 x119 (wrap64 (x120 + 1)) x258000 x258001 x259000 x259001 x284000 x284001 x285000 x285001 x285002)
end
def conv_BackIn.f (k : Nat) (l0_0 : List Int) (l0_1 : List Int) (l1_0 : List Int) (l1_1 : List Int) (a2 : Int) (a3 : Int) : Option (List Int × List Int × Int) := (tens_Good.f k l0_0 l0_1).bind fun t260 => (if t260 = true then ((tens_Good.f k l1_0 l1_1).bind fun t261 => (if t261 = true then ((conv_stepGood.f a2).bind fun t262 => (if t262 = true then ((conv_sized.f a3).bind fun t263 => (conv_BackIn.j0 k a2 a3 (!t263) l0_0 l0_1 l1_0 l1_1)) else (conv_BackIn.j0 k a2 a3 true l0_0 l0_1 l1_0 l1_1))) else (conv_BackIn.j0 k a2 a3 true l0_0 l0_1 l1_0 l1_1))) else (conv_BackIn.j0 k a2 a3 true l0_0 l0_1 l1_0 l1_1))
theorem conv_BackIn.mono_l : ∀ k, (∀ y0 y1 y2 y3 y4 y5 y6, LeO (conv_BackIn.j0 k y0 y1 y2 y3 y4 y5 y6) (conv_BackIn.j0 (k + 1) y0 y1 y2 y3 y4 y5 y6)) ∧ (∀ y0 y1 y2 y3 y4 y5 y6 y7 y8 y9 y10 y11 y12 y13, LeO (conv_BackIn.l0 k y0 y1 y2 y3 y4 y5 y6 y7 y8 y9 y10 y11 y12 y13) (conv_BackIn.l0 (k + 1) y0 y1 y2 y3 y4 y5 y6 y7 y8 y9 y10 y11 y12 y13)) ∧ (∀ y0 y1 y2 y3 y4 y5 y6 y7 y8 y9 y10 y11 y12 y13 y14 y15 y16 y17 y18 y19 y20 y21, LeO (conv_BackIn.l1 k y0 y1 y2 y3 y4 y5 y6 y7 y8 y9 y10 y11 y12 y13 y14 y15 y16 y17 y18 y19 y20 y21) (conv_BackIn.l1 (k + 1) y0 y1 y2 y3 y4 y5 y6 y7 y8 y9 y10 y11 y12 y13 y14 y15 y16 y17 y18 y19 y20 y21)) ∧ (∀ y0 y1 y2 y3 y4 y5 y6 y7 y8 y9 y10 y11 y12 y13 y14 y15 y16 y17 y18 y19 y20 y21 y22 y23 y24, LeO (conv_BackIn.l2 k y0 y1 y2 y3 y4 y5 y6 y7 y8 y9 y10 y11 y12 y13 y14 y15 y16 y17 y18 y19 y20 y21 y22 y23 y24) (conv_BackIn.l2 (k + 1) y0 y1 y2 y3 y4 y5 y6 y7 y8 y9 y10 y11 y12 y13 y14 y15 y16 y17 y18 y19 y20 y21 y22 y23 y24))
 | 0 => ⟨fun _ _ _ _ _ _ _ r h => by simp [conv_BackIn.j0] at h, fun _ _ _ _ _ _ _ _ _ _ _ _ _ _ r h => by simp [conv_BackIn.l0] at h, fun _ _ _ _ _ _ _ _ _ _ _ _ _ _ _ _ _ _ _ _ _ _ r h => by simp [conv_BackIn.l1] at h, fun _ _ _ _ _ _ _ _ _ _ _ _ _ _ _ _ _ _ _ _ _ _ _ _ _ r h => by simp [conv_BackIn.l2] at h⟩
 | k + 1 => by
  obtain ⟨ih0, ih1, ih2, ih3⟩ := conv_BackIn.mono_l k
  refine ⟨?_, ?_, ?_, ?_⟩
  ·intro y0 y1 y2 y3 y4 y5 y6
   unfold conv_BackIn.j0
   repeat' first
   | (with_reducible exact ih0 _ _ _ _ _ _ _)
   | (with_reducible exact ih1 _ _ _ _ _ _ _ _ _ _ _ _ _ _)
   | (with_reducible exact ih2 _ _ _ _ _ _ _ _ _ _ _ _ _ _ _ _ _ _ _ _ _ _)
   | (with_reducible exact ih3 _ _ _ _ _ _ _ _ _ _ _ _ _ _ _ _ _ _ _ _ _ _ _ _ _)
   | (with_reducible exact conv_of.mono _ _)
   | (with_reducible exact LeO.refl _)
   | (with_reducible exact LeO.none _)
   | (with_reducible refine LeO.ite ?_ ?_)
   | (with_reducible refine LeO.bind ?_ (fun _ => ?_))
   | exact ih0 _ _ _ _ _ _ _
   | exact ih1 _ _ _ _ _ _ _ _ _ _ _ _ _ _
   | exact ih2 _ _ _ _ _ _ _ _ _ _ _ _ _ _ _ _ _ _ _ _ _ _
   | exact ih3 _ _ _ _ _ _ _ _ _ _ _ _ _ _ _ _ _ _ _ _ _ _ _ _ _
   | exact conv_of.mono _ _
   | exact LeO.none _
   | refine LeO.ite ?_ ?_
   | refine LeO.bind ?_ (fun _ => ?_)
  ·intro y0 y1 y2 y3 y4 y5 y6 y7 y8 y9 y10 y11 y12 y13
   unfold conv_BackIn.l0
   repeat' first
   | (with_reducible exact ih0 _ _ _ _ _ _ _)
   | (with_reducible exact ih1 _ _ _ _ _ _ _ _ _ _ _ _ _ _)
   | (with_reducible exact ih2 _ _ _ _ _ _ _ _ _ _ _ _ _ _ _ _ _ _ _ _ _ _)
   | (with_reducible exact ih3 _ _ _ _ _ _ _ _ _ _ _ _ _ _ _ _ _ _ _ _ _ _ _ _ _)
   | (with_reducible exact LeO.refl _)
   | (with_reducible exact LeO.none _)
   | (with_reducible refine LeO.ite ?_ ?_)
   | (with_reducible refine LeO.bind ?_ (fun _ => ?_))
   | exact ih0 _ _ _ _ _ _ _
   | exact ih1 _ _ _ _ _ _ _ _ _ _ _ _ _ _
   | exact ih2 _ _ _ _ _ _ _ _ _ _ _ _ _ _ _ _ _ _ _ _ _ _
   | exact ih3 _ _ _ _ _ _ _ _ _ _ _ _ _ _ _ _ _ _ _ _ _ _ _ _ _
   | exact LeO.none _
   | refine LeO.ite ?_ ?_
   | refine LeO.bind ?_ (fun _ => ?_)
  ·intro y0 y1 y2 y3 y4 y5 y6 y7 y8 y9 y10 y11 y12 y13 y14 y15 y16 y17 y18 y19 y20 y21
   unfold conv_BackIn.l1
   repeat' first
   | (with_reducible exact ih0 _ _ _ _ _ _ _)
   | (with_reducible exact ih1 _ _ _ _ _ _ _ _ _ _ _ _ _ _)
   | (with_reducible exact ih2 _ _ _ _ _ _ _ _ _ _ _ _ _ _ _ _ _ _ _ _ _ _)
   | (with_reducible exact ih3 _ _ _ _ _ _ _ _ _ _ _ _ _ _ _ _ _ _ _ _ _ _ _ _ _)
   | (with_reducible exact wide_Acc_Fix.mono _ _ _ _ _)
   | (with_reducible exact LeO.refl _)
   | (with_reducible exact LeO.none _)
   | (with_reducible refine LeO.ite ?_ ?_)
   | (with_reducible refine LeO.bind ?_ (fun _ => ?_))
   | exact ih0 _ _ _ _ _ _ _
   | exact ih1 _ _ _ _ _ _ _ _ _ _ _ _ _ _
   | exact ih2 _ _ _ _ _ _ _ _ _ _ _ _ _ _ _ _ _ _ _ _ _ _
   | exact ih3 _ _ _ _ _ _ _ _ _ _ _ _ _ _ _ _ _ _ _ _ _ _ _ _ _
   | exact wide_Acc_Fix.mono _ _ _ _ _
   | exact LeO.none _
   | refine LeO.ite ?_ ?_
   | refine LeO.bind ?_ (fun _ => ?_)
  ·intro y0 y1 y2 y3 y4 y5 y6 y7 y8 y9 y10 y11 y12 y13 y14 y15 y16 y17 y18 y19 y20 y21 y22 y23 y24
   unfold conv_BackIn.l2
   repeat' first
   | (with_reducible exact ih0 _ _ _ _ _ _ _)
   | (with_reducible exact ih1 _ _ _ _ _ _ _ _ _ _ _ _ _ _)
   | (with_reducible exact ih2 _ _ _ _ _ _ _ _ _ _ _ _ _ _ _ _ _ _ _ _ _ _)
   | (with_reducible exact ih3 _ _ _ _ _ _ _ _ _ _ _ _ _ _ _ _ _ _ _ _ _ _ _ _ _)
   | (with_reducible exact LeO.refl _)
   | (with_reducible exact LeO.none _)
   | (with_reducible refine LeO.ite ?_ ?_)
   | (with_reducible refine LeO.bind ?_ (fun _ => ?_))
   | exact ih0 _ _ _ _ _ _ _
   | exact ih1 _ _ _ _ _ _ _ _ _ _ _ _ _ _
   | exact ih2 _ _ _ _ _ _ _ _ _ _ _ _ _ _ _ _ _ _ _ _ _ _
   | exact ih3 _ _ _ _ _ _ _ _ _ _ _ _ _ _ _ _ _ _ _ _ _ _ _ _ _
   | exact LeO.none _
   | refine LeO.ite ?_ ?_
   | refine LeO.bind ?_ (fun _ => ?_)
theorem conv_BackIn.mono : ∀ a0 a1 a2 a3 a4 a5 k, LeO (conv_BackIn.f k a0 a1 a2 a3 a4 a5) (conv_BackIn.f (k + 1) a0 a1 a2 a3 a4 a5) := by
 intro a0 a1 a2 a3 a4 a5 k
 obtain ⟨ih0, ih1, ih2, ih3⟩ := conv_BackIn.mono_l k
 unfold conv_BackIn.f
 repeat' first
   | (with_reducible exact ih0 _ _ _ _ _ _ _)
   | (with_reducible exact ih1 _ _ _ _ _ _ _ _ _ _ _ _ _ _)
   | (with_reducible exact ih2 _ _ _ _ _ _ _ _ _ _ _ _ _ _ _ _ _ _ _ _ _ _)
   | (with_reducible exact ih3 _ _ _ _ _ _ _ _ _ _ _ _ _ _ _ _ _ _ _ _ _ _ _ _ _)
   | (with_reducible exact tens_Good.mono _ _ _)
   | (with_reducible exact LeO.refl _)
   | (with_reducible exact LeO.none _)
   | (with_reducible refine LeO.ite ?_ ?_)
   | (with_reducible refine LeO.bind ?_ (fun _ => ?_))
   | exact ih0 _ _ _ _ _ _ _
   | exact ih1 _ _ _ _ _ _ _ _ _ _ _ _ _ _
   | exact ih2 _ _ _ _ _ _ _ _ _ _ _ _ _ _ _ _ _ _ _ _ _ _
   | exact ih3 _ _ _ _ _ _ _ _ _ _ _ _ _ _ _ _ _ _ _ _ _ _ _ _ _
   | exact tens_Good.mono _ _ _
   | exact LeO.none _
   | refine LeO.ite ?_ ?_
   | refine LeO.bind ?_ (fun _ => ?_)
def conv_BackIn.T3 : Bool × List (List Nat × List Nat) := (true, [([], []), ([0], [0]), ([1], [1]), ([2], [2]), ([3], [3]), ([4], [4]), ([5, 4], [4, 5]), ([6, 4], [4, 6]), ([7, 4], [4, 7]), ([4, 8], [4, 8]), ([9, 4], [9]), ([10], [10]), ([11, 10], [10, 11]), ([12, 10], [10, 12]), ([13, 10], [10, 13]), ([10], [10]), ([15, 10], [10, 15]), ([16, 10], [10, 16]), ([17, 10], [10, 17]), ([14, 18, 10], [10, 14, 18]), ([10, 19], [10, 19]), ([20, 10], [20]), ([21], [21]), ([21], [21]), ([23, 21], [21, 23]), ([24, 21], [21, 24]), ([25, 21], [21, 25]), ([21], [21]), ([22, 26, 27, 21, 21], [21, 22, 26, 27]), ([21], [21]), ([29, 21], [21, 29]), ([30, 21], [21, 30]), ([31, 21], [21, 31]), ([28, 32, 21], [21, 28, 32]), ([21, 33], [21, 33]), ([34, 28], [34])])
def conv_BackIn.B3 : List Nat := [0, 1, 3, 7, 15, 31, 63, 127, 255, 511, 1023, 2047, 4095, 8191, 16383, 2047, 34815, 100351, 231423, 524287, 1048575, 2097151, 4194303, 4194303, 12582911, 29360127, 62914559, 4194303, 268435455, 4194303, 541065215, 1614807039, 3762290687, 8589934591, 17179869183, 34359738367]
theorem conv_BackIn.tab3 : rtab .any (opsOf Try.f22 3) = conv_BackIn.T3 := by kernel_rfl
theorem conv_BackIn.bits3 : waitsOk conv_BackIn.T3.2 conv_BackIn.B3 = true := by kernel_rfl
def conv_BackIn.T5 : Bool × List (List Nat × List Nat) := (true, [([], []), ([0], [0]), ([1], [1]), ([2], [2]), ([], []), ([4], [4]), ([5], [5]), ([6], [6]), ([], []), ([8], [8]), ([9], [9]), ([10], [10]), ([], []), ([12], [12]), ([13], [13]), ([14], [14]), ([3, 0, 1, 2, 3], [3]), ([7, 16, 0, 1, 2, 3, 4, 5, 6, 7, 16], [7]), ([11, 17, 0, 1, 2, 3, 4, 5, 6, 7, 8, 9, 10, 11, 16, 17], [11]), ([15, 18, 0, 1, 2, 3, 4, 5, 6, 7, 8, 9, 10, 11, 12, 13, 14, 15, 16, 17, 18], [15])])
def conv_BackIn.B5 : List Nat := [0, 1, 3, 7, 0, 16, 48, 112, 0, 256, 768, 1792, 0, 4096, 12288, 28672, 15, 65791, 200703, 524287]
theorem conv_BackIn.tab5 : rtab .any (opsOf Try.f22 5) = conv_BackIn.T5 := by kernel_rfl
theorem conv_BackIn.bits5 : waitsOk conv_BackIn.T5.2 conv_BackIn.B5 = true := by kernel_rfl
def conv_BackIn.T12 : Bool × List (List Nat × List Nat) := (true, [([], []), ([], []), ([0, 1], [0, 1]), ([], []), ([], []), ([3, 4], [3, 4]), ([2, 0, 1, 2], [2]), ([5, 6, 0, 1, 2, 3, 4, 5, 6], [5])])
def conv_BackIn.B12 : List Nat := [0, 0, 3, 0, 0, 24, 7, 127]
theorem conv_BackIn.tab12 : rtab .any (opsOf Try.f22 12) = conv_BackIn.T12 := by kernel_rfl
theorem conv_BackIn.bits12 : waitsOk conv_BackIn.T12.2 conv_BackIn.B12 = true := by kernel_rfl
def conv_BackIn.T22 : Bool × List (List Nat × List Nat) := (true, [([], []), ([0], [0]), ([], []), ([], []), ([2, 3], [2, 3]), ([], []), ([4, 5], [4, 5]), ([1, 6], [1, 6]), ([7], [7]), ([], []), ([9], [9]), ([], []), ([], []), ([11, 12], [11, 12]), ([], []), ([13, 14], [13, 14]), ([], []), ([15, 16], [15, 16]), ([], []), ([17, 18], [17, 18]), ([10, 19], [10, 19]), ([20], [20]), ([8, 21], [8, 21])])
def conv_BackIn.B22 : List Nat := [0, 1, 0, 0, 12, 0, 60, 127, 255, 0, 512, 0, 0, 6144, 0, 30720, 0, 129024, 0, 522240, 1048064, 2096640, 4194303]
theorem conv_BackIn.tab22 : rtab .any (opsOf Try.f22 22) = conv_BackIn.T22 := by kernel_rfl
theorem conv_BackIn.bits22 : waitsOk conv_BackIn.T22.2 conv_BackIn.B22 = true := by kernel_rfl
set_option maxHeartbeats 8000000 in
set_option maxRecDepth 100000 in
theorem conv_BackIn.calls (k : Nat) (A0_0 : Option Addr) (c0_0 : Nat) (l0_0 : List Int) (A0_1 : Option Addr) (c0_1 : Nat) (l0_1 : List Int) (A1_0 : Option Addr) (c1_0 : Nat) (l1_0 : List Int) (A1_1 : Option Addr) (c1_1 : Nat) (l1_1 : List Int) (a2 : Int) (a3 : Int) (r1 : List Int) (r2 : List Int) (r3 : Int) (w : World) (hr0_0 : Kd.C (Kd.int .i64) w A0_0 l0_0.length l0_0) (hc0_0 : l0_0.length ≤ c0_0) (hr0_1 : Kd.C (Kd.int .i64) w A0_1 l0_1.length l0_1) (hc0_1 : l0_1.length ≤ c0_1) (hr1_0 : Kd.C (Kd.int .i64) w A1_0 l1_0.length l1_0) (hc1_0 : l1_0.length ≤ c1_0) (hr1_1 : Kd.C (Kd.int .i64) w A1_1 l1_1.length l1_1) (hc1_1 : l1_1.length ≤ c1_1) (h : conv_BackIn.f k l0_0 l0_1 l1_0 l1_1 a2 a3 = some (r1, r2, r3)) :
  Calls Try.prog 22 #[.agg #[.slice A0_0 l0_0.length c0_0, .slice A0_1 l0_1.length c0_1], .agg #[.slice A1_0 l1_0.length c1_0, .slice A1_1 l1_1.length c1_1], .int .i64 a2, .int .i64 a3] w fun e w' => ∃ v0_ v1_ : Value, e = .returned (.tuple #[.agg #[v0_, v1_], .int .i64 r3]) ∧ Kd.R (Kd.int .i64) 3 w' w.heap.size (fun _ => True) v0_ r1 ∧ Kd.R (Kd.int .i64) 33 w' w.heap.size (fun _ => True) v1_ r2 ∧ Below w.heap.size w w' := by
 have hu25 := Try.underlying25
 have hu54 := Try.underlying54
 have HR0_0 := Aside0.mk hr0_0
 have HC0_0 := Aside0.mk hc0_0
 clear hr0_0 hc0_0
 have HR0_1 := Aside0.mk hr0_1
 have HC0_1 := Aside0.mk hc0_1
 clear hr0_1 hc0_1
 have HR1_0 := Aside0.mk hr1_0
 have HC1_0 := Aside0.mk hc1_0
 clear hr1_0 hc1_0
 have HR1_1 := Aside0.mk hr1_1
 have HC1_1 := Aside0.mk hc1_1
 clear hr1_1 hc1_1
 have HB := Aside0.mk (Below.refl w.heap.size w)
 have H : ((tens_Good.f k l0_0 l0_1).bind fun t260 => (if t260 = true then ((tens_Good.f k l1_0 l1_1).bind fun t261 => (if t261 = true then ((conv_stepGood.f a2).bind fun t262 => (if t262 = true then ((conv_sized.f a3).bind fun t263 => (conv_BackIn.j0 k a2 a3 (!t263) l0_0 l0_1 l1_0 l1_1)) else (conv_BackIn.j0 k a2 a3 true l0_0 l0_1 l1_0 l1_1))) else (conv_BackIn.j0 k a2 a3 true l0_0 l0_1 l1_0 l1_1))) else (conv_BackIn.j0 k a2 a3 true l0_0 l0_1 l1_0 l1_1))) = some (r1, r2, r3) := h
 clear h
 have HC5 := Aside0.mk H
 clear H
 go_enter Try.func22, Try.ntmps22
 go_upto_region 1 with (first | ((with_reducible refine gate_dst (N := 4) rfl ?_); (try (refine gate_guard (by rfl) ?_; dsimp only)); refine box_event ?hg (N := 4) ?hd (cs := #[.slice A0_0 l0_0.length c0_0, .slice A0_1 l0_1.length c0_1]) (t := 25) ?hr ?_; (case hd => rfl); (case hg => rfl); (case hr => first | (go_simp; done) | (go_simp; rfl)); intro gb257 hg w6 hbox hb; have BK257 := Aside0.mk (hbox); have GW257 := Aside0.mk (zs_ hg (zw0_ HB)); have GE257 := Aside0.mk (zs_ hg (zw0_ HB)); replace HB := Aside0.mk (below_step (zw0_ HB) hb); clear hb hbox hg) | ((with_reducible refine gate_dst (N := 5) rfl ?_); (try (refine gate_guard (by rfl) ?_; dsimp only)); refine box_event ?hg (N := 5) ?hd (cs := #[.slice A1_0 l1_0.length c1_0, .slice A1_1 l1_1.length c1_1]) (t := 25) ?hr ?_; (case hd => rfl); (case hg => rfl); (case hr => first | (go_simp; done) | (go_simp; rfl)); intro gb258 hg w7 hbox hb; have BK258 := Aside0.mk (hbox); have GW258 := Aside0.mk (zs_ hg (zw1_ HB GE257)); have GE258 := Aside0.mk (zs_ hg (zw1_ HB GE257)); replace HB := Aside0.mk (below_step (zw1_ HB GE257) hb); have NB257_258 := Aside0.mk (zn_ hg BK257); have NB258_257 := Aside0.mk (zm_ hg BK257); replace BK257 := Aside0.mk (zl_ BK257 hb); clear hb hbox hg) | ((with_reducible refine gate_dst (N := 8) rfl ?_); (try (refine gate_guard (by rfl) ?_; dsimp only)); refine box_event ?hg (N := 8) ?hd (cs := #[.slice none 0 0, .slice none 0 0]) (t := 25) ?hr ?_; (case hd => rfl); (case hg => rfl); (case hr => first | (go_simp; done) | (go_simp; rfl)); intro gb259 hg w8 hbox hb; have BK259 := Aside0.mk (hbox); have GW259 := Aside0.mk (zs_ hg (zw2_ HB GE257 GE258)); have GE259 := Aside0.mk (zs_ hg (zw2_ HB GE257 GE258)); replace HB := Aside0.mk (below_step (zw2_ HB GE257 GE258) hb); have NB257_259 := Aside0.mk (zn_ hg BK257); have NB259_257 := Aside0.mk (zm_ hg BK257); replace BK257 := Aside0.mk (zl_ BK257 hb); have NB258_259 := Aside0.mk (zn_ hg BK258); have NB259_258 := Aside0.mk (zm_ hg BK258); replace BK258 := Aside0.mk (zl_ BK258 hb); clear hb hbox hg))
 (try simp only [Act.put, List.setIfInBounds_toArray, List.set_cons_zero, List.set_cons_succ])
 go_cut [23] (fun v23 wc => ∃ (kq : Nat) (x23_4 : Bool), v23 = .bool x23_4 ∧ Aside0 (conv_BackIn.j0 kq a2 a3 x23_4 l0_0 l0_1 l1_0 l1_1 = some (r1, r2, r3)) ∧ Aside0 (kq ≤ k) ∧ Aside0 (wc.heap[gb257]? = some (.cells #[(.slice A0_0 l0_0.length c0_0), (.slice A0_1 l0_1.length c0_1)] 25 (0, 0))) ∧ Aside0 (wc.heap[gb258]? = some (.cells #[(.slice A1_0 l1_0.length c1_0), (.slice A1_1 l1_1.length c1_1)] 25 (0, 0))) ∧ Aside0 (wc.heap[gb259]? = some (.cells #[(.slice none 0 0), (.slice none 0 0)] 25 (0, 0))) ∧ Aside0 (Below w.heap.size w wc))
 case first =>
  have H := HC5.out
  clear HC5
  replace H := Option.bind_eq_some_iff.mp H
  obtain ⟨t260, A90, H⟩ := H
  (try dsimp only at H)
  have A9 := Aside0.mk A90
  clear A90
  by_cases c10 : t260 = true
  ·subst c10
   have H1 := H
   rw [if_pos rfl] at H1
   clear H
   have H := H1
   clear H1
   replace H := Option.bind_eq_some_iff.mp H
   obtain ⟨t261, A110, H⟩ := H
   (try dsimp only at H)
   have A11 := Aside0.mk A110
   clear A110
   by_cases c12 : t261 = true
   ·subst c12
    have H1 := H
    rw [if_pos rfl] at H1
    clear H
    have H := H1
    clear H1
    replace H := Option.bind_eq_some_iff.mp H
    obtain ⟨t262, A130, H⟩ := H
    (try dsimp only at H)
    have A13 := Aside0.mk A130
    clear A130
    by_cases c14 : t262 = true
    ·subst c14
     have H1 := H
     rw [if_pos rfl] at H1
     clear H
     have H := H1
     clear H1
     replace H := Option.bind_eq_some_iff.mp H
     obtain ⟨t263, A150, H⟩ := H
     replace H : (conv_BackIn.j0 k a2 a3 (!t263) l0_0 l0_1 l1_0 l1_1) = some (r1, r2, r3) := H
     have A15 := Aside0.mk A150
     clear A150
     have H' := Aside0.mk H
     clear H
     have hnb16 := NB257_258.out
     have hnc16 := NB258_257.out
     have hnb17 := NB257_259.out
     have hnc17 := NB259_257.out
     have hcz18_0 := zx_ (v := .slice A0_0 l0_0.length c0_0) BK257 0
     have hcz18_1 := zx_ (v := .slice A0_1 l0_1.length c0_1) BK257 1
     have hfz18_0 := blk_frozen BK257.out 0
     have hfz18_1 := blk_frozen BK257.out 1
     go_wp2_with (first | ((with_reducible refine gate_callee (f := 26) rfl ?_); refine zg_ (some 25) Try.func26 #[.agg #[.slice A0_0 l0_0.length c0_0, .slice A0_1 l0_1.length c0_1]] (h := ?_); (with_reducible refine (tens_Good.calls k _ _ l0_0 _ _ l0_1 true _ ?side1 ?side2 ?side3 ?side4 A9.out).mono ?_); (case side1 => exact zk_ (Kd.C_below HR0_0.out HB.out)); (case side2 => exact HC0_0.out); (case side3 => exact zk_ (Kd.C_below HR0_1.out HB.out)); (case side4 => exact HC0_1.out); rintro e w19 ⟨rfl, hb⟩; refine ⟨_, rfl, ?_⟩; replace BK257 := Aside0.mk (zl_ BK257 hb); replace BK258 := Aside0.mk (zl_ BK258 hb); replace BK259 := Aside0.mk (zl_ BK259 hb); replace HB := Aside0.mk (below_step (zw3_ HB GE257 GE258 GE259) hb); (try clear hb); have hnb20 := NB258_259.out; have hnc20 := NB259_258.out; have hcz21_0 := zx_ (v := .slice A1_0 l1_0.length c1_0) BK258 0; have hcz21_1 := zx_ (v := .slice A1_1 l1_1.length c1_1) BK258 1; have hfz21_0 := blk_frozen BK258.out 0; have hfz21_1 := blk_frozen BK258.out 1) | (go_at_call 26; (with_reducible refine (tens_Good.calls k _ _ l1_0 _ _ l1_1 true _ ?side1 ?side2 ?side3 ?side4 A11.out).mono ?_); (case side1 => exact zk_ (Kd.C_below HR1_0.out HB.out)); (case side2 => exact HC1_0.out); (case side3 => exact zk_ (Kd.C_below HR1_1.out HB.out)); (case side4 => exact HC1_1.out); rintro e w22 ⟨rfl, hb⟩; replace BK257 := Aside0.mk (zl_ BK257 hb); replace BK258 := Aside0.mk (zl_ BK258 hb); replace BK259 := Aside0.mk (zl_ BK259 hb); replace HB := Aside0.mk (below_step (zw3_ HB GE257 GE258 GE259) hb); (try clear hb)) | (go_at_call 27; (with_reducible refine (conv_stepGood.calls a2 true _ A13.out).mono ?_); rintro e w' ⟨rfl, ⟨nd, rfl⟩⟩) | (go_at_call 39; (with_reducible refine (conv_sized.calls a3 t263 _ A15.out).mono ?_); rintro e w' ⟨rfl, ⟨nd, rfl⟩⟩))
     go_meet
     case rel => exact ⟨_, (!t263), (by first | rfl | (simp; done) | (simp [*]; done)), H', ⟨by first | omega | exact Nat.le_refl _⟩, ⟨zb_ BK257⟩, ⟨zb_ BK258⟩, ⟨zb_ BK259⟩, ⟨zw3_ HB GE257 GE258 GE259⟩⟩
    ·replace c14 := Bool.eq_false_iff.mpr c14
     subst c14
     have H1 : (conv_BackIn.j0 k a2 a3 true l0_0 l0_1 l1_0 l1_1) = some (r1, r2, r3) := by rw [if_neg (show ¬ (false = true) by decide)] at H; exact H
     clear H
     have H := H1
     clear H1
     have H' := Aside0.mk H
     clear H
     have hnb23 := NB257_258.out
     have hnc23 := NB258_257.out
     have hnb24 := NB257_259.out
     have hnc24 := NB259_257.out
     have hcz25_0 := zx_ (v := .slice A0_0 l0_0.length c0_0) BK257 0
     have hcz25_1 := zx_ (v := .slice A0_1 l0_1.length c0_1) BK257 1
     have hfz25_0 := blk_frozen BK257.out 0
     have hfz25_1 := blk_frozen BK257.out 1
     go_wp2_with (first | ((with_reducible refine gate_callee (f := 26) rfl ?_); refine zg_ (some 25) Try.func26 #[.agg #[.slice A0_0 l0_0.length c0_0, .slice A0_1 l0_1.length c0_1]] (h := ?_); (with_reducible refine (tens_Good.calls k _ _ l0_0 _ _ l0_1 true _ ?side1 ?side2 ?side3 ?side4 A9.out).mono ?_); (case side1 => exact zk_ (Kd.C_below HR0_0.out HB.out)); (case side2 => exact HC0_0.out); (case side3 => exact zk_ (Kd.C_below HR0_1.out HB.out)); (case side4 => exact HC0_1.out); rintro e w26 ⟨rfl, hb⟩; refine ⟨_, rfl, ?_⟩; replace BK257 := Aside0.mk (zl_ BK257 hb); replace BK258 := Aside0.mk (zl_ BK258 hb); replace BK259 := Aside0.mk (zl_ BK259 hb); replace HB := Aside0.mk (below_step (zw3_ HB GE257 GE258 GE259) hb); (try clear hb); have hnb27 := NB258_259.out; have hnc27 := NB259_258.out; have hcz28_0 := zx_ (v := .slice A1_0 l1_0.length c1_0) BK258 0; have hcz28_1 := zx_ (v := .slice A1_1 l1_1.length c1_1) BK258 1; have hfz28_0 := blk_frozen BK258.out 0; have hfz28_1 := blk_frozen BK258.out 1) | (go_at_call 26; (with_reducible refine (tens_Good.calls k _ _ l1_0 _ _ l1_1 true _ ?side1 ?side2 ?side3 ?side4 A11.out).mono ?_); (case side1 => exact zk_ (Kd.C_below HR1_0.out HB.out)); (case side2 => exact HC1_0.out); (case side3 => exact zk_ (Kd.C_below HR1_1.out HB.out)); (case side4 => exact HC1_1.out); rintro e w29 ⟨rfl, hb⟩; replace BK257 := Aside0.mk (zl_ BK257 hb); replace BK258 := Aside0.mk (zl_ BK258 hb); replace BK259 := Aside0.mk (zl_ BK259 hb); replace HB := Aside0.mk (below_step (zw3_ HB GE257 GE258 GE259) hb); (try clear hb)) | (go_at_call 27; (with_reducible refine (conv_stepGood.calls a2 false _ A13.out).mono ?_); rintro e w' ⟨rfl, ⟨nd, rfl⟩⟩))
     go_meet
     case rel => exact ⟨_, (true), (by first | rfl | (simp; done) | (simp [*]; done)), H', ⟨by first | omega | exact Nat.le_refl _⟩, ⟨zb_ BK257⟩, ⟨zb_ BK258⟩, ⟨zb_ BK259⟩, ⟨zw3_ HB GE257 GE258 GE259⟩⟩
   ·replace c12 := Bool.eq_false_iff.mpr c12
    subst c12
    have H1 : (conv_BackIn.j0 k a2 a3 true l0_0 l0_1 l1_0 l1_1) = some (r1, r2, r3) := by rw [if_neg (show ¬ (false = true) by decide)] at H; exact H
    clear H
    have H := H1
    clear H1
    have H' := Aside0.mk H
    clear H
    have hnb30 := NB257_258.out
    have hnc30 := NB258_257.out
    have hnb31 := NB257_259.out
    have hnc31 := NB259_257.out
    have hcz32_0 := zx_ (v := .slice A0_0 l0_0.length c0_0) BK257 0
    have hcz32_1 := zx_ (v := .slice A0_1 l0_1.length c0_1) BK257 1
    have hfz32_0 := blk_frozen BK257.out 0
    have hfz32_1 := blk_frozen BK257.out 1
    go_wp2_with (first | ((with_reducible refine gate_callee (f := 26) rfl ?_); refine zg_ (some 25) Try.func26 #[.agg #[.slice A0_0 l0_0.length c0_0, .slice A0_1 l0_1.length c0_1]] (h := ?_); (with_reducible refine (tens_Good.calls k _ _ l0_0 _ _ l0_1 true _ ?side1 ?side2 ?side3 ?side4 A9.out).mono ?_); (case side1 => exact zk_ (Kd.C_below HR0_0.out HB.out)); (case side2 => exact HC0_0.out); (case side3 => exact zk_ (Kd.C_below HR0_1.out HB.out)); (case side4 => exact HC0_1.out); rintro e w33 ⟨rfl, hb⟩; refine ⟨_, rfl, ?_⟩; replace BK257 := Aside0.mk (zl_ BK257 hb); replace BK258 := Aside0.mk (zl_ BK258 hb); replace BK259 := Aside0.mk (zl_ BK259 hb); replace HB := Aside0.mk (below_step (zw3_ HB GE257 GE258 GE259) hb); (try clear hb); have hnb34 := NB258_259.out; have hnc34 := NB259_258.out; have hcz35_0 := zx_ (v := .slice A1_0 l1_0.length c1_0) BK258 0; have hcz35_1 := zx_ (v := .slice A1_1 l1_1.length c1_1) BK258 1; have hfz35_0 := blk_frozen BK258.out 0; have hfz35_1 := blk_frozen BK258.out 1) | (go_at_call 26; (with_reducible refine (tens_Good.calls k _ _ l1_0 _ _ l1_1 false _ ?side1 ?side2 ?side3 ?side4 A11.out).mono ?_); (case side1 => exact zk_ (Kd.C_below HR1_0.out HB.out)); (case side2 => exact HC1_0.out); (case side3 => exact zk_ (Kd.C_below HR1_1.out HB.out)); (case side4 => exact HC1_1.out); rintro e w36 ⟨rfl, hb⟩; replace BK257 := Aside0.mk (zl_ BK257 hb); replace BK258 := Aside0.mk (zl_ BK258 hb); replace BK259 := Aside0.mk (zl_ BK259 hb); replace HB := Aside0.mk (below_step (zw3_ HB GE257 GE258 GE259) hb); (try clear hb)))
    go_meet
    case rel => exact ⟨_, (true), (by first | rfl | (simp; done) | (simp [*]; done)), H', ⟨by first | omega | exact Nat.le_refl _⟩, ⟨zb_ BK257⟩, ⟨zb_ BK258⟩, ⟨zb_ BK259⟩, ⟨zw3_ HB GE257 GE258 GE259⟩⟩
  ·replace c10 := Bool.eq_false_iff.mpr c10
   subst c10
   have H1 : (conv_BackIn.j0 k a2 a3 true l0_0 l0_1 l1_0 l1_1) = some (r1, r2, r3) := by rw [if_neg (show ¬ (false = true) by decide)] at H; exact H
   clear H
   have H := H1
   clear H1
   have H' := Aside0.mk H
   clear H
   have hnb37 := NB257_258.out
   have hnc37 := NB258_257.out
   have hnb38 := NB257_259.out
   have hnc38 := NB259_257.out
   have hcz39_0 := zx_ (v := .slice A0_0 l0_0.length c0_0) BK257 0
   have hcz39_1 := zx_ (v := .slice A0_1 l0_1.length c0_1) BK257 1
   have hfz39_0 := blk_frozen BK257.out 0
   have hfz39_1 := blk_frozen BK257.out 1
   go_wp2_with (first | ((with_reducible refine gate_callee (f := 26) rfl ?_); refine zg_ (some 25) Try.func26 #[.agg #[.slice A0_0 l0_0.length c0_0, .slice A0_1 l0_1.length c0_1]] (h := ?_); (with_reducible refine (tens_Good.calls k _ _ l0_0 _ _ l0_1 false _ ?side1 ?side2 ?side3 ?side4 A9.out).mono ?_); (case side1 => exact zk_ (Kd.C_below HR0_0.out HB.out)); (case side2 => exact HC0_0.out); (case side3 => exact zk_ (Kd.C_below HR0_1.out HB.out)); (case side4 => exact HC0_1.out); rintro e w40 ⟨rfl, hb⟩; refine ⟨_, rfl, ?_⟩; replace BK257 := Aside0.mk (zl_ BK257 hb); replace BK258 := Aside0.mk (zl_ BK258 hb); replace BK259 := Aside0.mk (zl_ BK259 hb); replace HB := Aside0.mk (below_step (zw3_ HB GE257 GE258 GE259) hb); (try clear hb)))
   go_meet
   case rel => exact ⟨_, (true), (by first | rfl | (simp; done) | (simp [*]; done)), H', ⟨by first | omega | exact Nat.le_refl _⟩, ⟨zb_ BK257⟩, ⟨zb_ BK258⟩, ⟨zb_ BK259⟩, ⟨zw3_ HB GE257 GE258 GE259⟩⟩
 case rest =>
  clear HC5
  try clear c1
  try clear c2
  try clear p2
  try clear c3
  try clear c10
  try clear c12
  try clear c14
  try clear c16
  try clear c17
  try clear c20
  try clear c22
  try clear c23
  try clear c24
  try clear c26
  try clear c27
  try clear c30
  try clear c31
  try clear c34
  try clear c37
  try clear c38
  try clear hcz18_0
  try clear hcz18_1
  try clear hcz21_0
  try clear hcz21_1
  try clear hcz25_0
  try clear hcz25_1
  try clear hcz28_0
  try clear hcz28_1
  try clear hcz32_0
  try clear hcz32_1
  try clear hcz35_0
  try clear hcz35_1
  try clear hcz39_0
  try clear hcz39_1
  try clear hfz18_0
  try clear hfz18_1
  try clear hfz21_0
  try clear hfz21_1
  try clear hfz25_0
  try clear hfz25_1
  try clear hfz28_0
  try clear hfz28_1
  try clear hfz32_0
  try clear hfz32_1
  try clear hfz35_0
  try clear hfz35_1
  try clear hfz39_0
  try clear hfz39_1
  obtain ⟨kq, x23_4, rfl, HA, HJ4, BK257, BK258, BK259, HB⟩ := hcut
  cases kq with
  | zero => exact absurd HA.out (by simp [conv_BackIn.j0])
  | succ kj4 =>
   have H := HA.out
   clear HA
   simp only [conv_BackIn.j0] at H
   by_cases c41 : x23_4 = true
   ·subst c41
    have H1 : (some (([] : List Int), ([] : List Int), 1)) = some (r1, r2, r3) := by rw [if_pos rfl] at H; exact H
    clear H
    have H := H1
    clear H1
    simp only [Option.some.injEq, Prod.mk.injEq] at H
    obtain ⟨rfl, rfl, rfl⟩ := H
    have hnb42 := NB259_257.out
    have hnc42 := NB257_259.out
    have hnb43 := NB259_258.out
    have hnc43 := NB258_259.out
    have hcz44_0 := zx_ (v := .slice none 0 0) BK259 0
    have hcz44_1 := zx_ (v := .slice none 0 0) BK259 1
    have hfz44_0 := blk_frozen BK259.out 0
    have hfz44_1 := blk_frozen BK259.out 1
    go_wp2
    refine bodyPost_ret (results_ct rfl _ _ gb259 25 #[.slice none 0 0, .slice none 0 0] (0, 0) _ rfl (by (with_reducible repeat (first | refine blk_drewN ?_ _ | refine blk_drew ?_ | refine blk_alloc ?_ _)); refine blk_put (cs := #[.slice none 0 0, .slice none 0 0]) ?_ 1 _ rfl; (with_reducible repeat (first | refine blk_drewN ?_ _ | refine blk_drew ?_ | refine blk_alloc ?_ _)); refine blk_put (cs := #[.slice none 0 0, .slice none 0 0]) ?_ 0 _ rfl; (with_reducible repeat (first | refine blk_drewN ?_ _ | refine blk_drew ?_ | refine blk_alloc ?_ _)); exact BK259.out) Try.underlying25 rfl (by kernel_rfl)) rfl ?_
    exact ⟨_, _, by first | rfl | (simp [errW_none, errW_some] <;> rfl) | (simp [*, errW_none, errW_some] <;> rfl), by first | exact Kd.R_nil _ _ _ _ _ | exact Kd.N_nil _ _ _ _ _ | exact Kd.V_nil _ _ _ _ _ | exact Kd.Q_nil _ _ _ _ _ | exact Kd.S_nil _ _ _ _ _, by first | exact Kd.R_nil _ _ _ _ _ | exact Kd.N_nil _ _ _ _ _ | exact Kd.V_nil _ _ _ _ _ | exact Kd.Q_nil _ _ _ _ _ | exact Kd.S_nil _ _ _ _ _, zw3_ HB GE257 GE258 GE259⟩
   ·replace c41 := Bool.eq_false_iff.mpr c41
    subst c41
    have H1 := H
    rw [if_neg (show ¬ (false = true) by decide)] at H1
    clear H
    have H := H1
    clear H1
    by_cases c45 : (l0_0.length : Int) = 2
    ·rw [if_pos c45] at H
     have c45b0 : ((l0_0.length : Int) == 2) = true := beq_iff_eq.mpr c45
     have c45b1 : ((l0_0.length : Int) != 2) = false := bne_eq_false_iff_eq.mpr c45
     clear c45
     by_cases c46 : (l1_0.length : Int) = 3
     ·rw [if_pos c46] at H
      have c46b0 : ((l1_0.length : Int) == 3) = true := beq_iff_eq.mpr c46
      have c46b1 : ((l1_0.length : Int) != 3) = false := bne_eq_false_iff_eq.mpr c46
      clear c46
      by_cases c47 : 0 < (l1_0.length : Int)
      ·rw [if_pos c47] at H
       have c47b0 : decide (0 < (l1_0.length : Int)) = true := decide_eq_true c47
       have c47b1 : decide (0 < l1_0.length) = true := decide_eq_true (by omega)
       clear c47
       by_cases c48 : 0 < (l0_0.length : Int)
       ·rw [if_pos c48] at H
        have c48b0 : decide (0 < (l0_0.length : Int)) = true := decide_eq_true c48
        have c48b1 : decide (0 < l0_0.length) = true := decide_eq_true (by omega)
        clear c48
        by_cases c49 : (rd l1_0 0) = (rd l0_0 0)
        ·rw [if_pos c49] at H
         have c49b0 : ((rd l1_0 0) == (rd l0_0 0)) = true := beq_iff_eq.mpr c49
         have c49b1 : ((rd l1_0 0) != (rd l0_0 0)) = false := bne_eq_false_iff_eq.mpr c49
         clear c49
         by_cases c50 : 2 < (l1_0.length : Int)
         ·rw [if_pos c50] at H
          have c50b0 : decide (2 < (l1_0.length : Int)) = true := decide_eq_true c50
          have c50b1 : decide (2 < l1_0.length) = true := decide_eq_true (by omega)
          clear c50
          replace H := Option.bind_eq_some_iff.mp H
          obtain ⟨t267, A510, H⟩ := H
          (try dsimp only at H)
          have A51 := Aside0.mk A510
          clear A510
          by_cases c52 : 1 < (l0_0.length : Int)
          ·rw [if_pos c52] at H
           have c52b0 : decide (1 < (l0_0.length : Int)) = true := decide_eq_true c52
           have c52b1 : decide (1 < l0_0.length) = true := decide_eq_true (by omega)
           clear c52
           by_cases c53 : t267 = (rd l0_0 1)
           ·rw [if_pos c53] at H
            have c53b0 : (t267 == (rd l0_0 1)) = true := beq_iff_eq.mpr c53
            have c53b1 : (t267 != (rd l0_0 1)) = false := bne_eq_false_iff_eq.mpr c53
            clear c53
            by_cases c54 : 1 < (l1_0.length : Int)
            ·rw [if_pos c54] at H
             have c54b0 : decide (1 < (l1_0.length : Int)) = true := decide_eq_true c54
             have c54b1 : decide (1 < l1_0.length) = true := decide_eq_true (by omega)
             clear c54
             obtain ⟨y273, hy273⟩ : ∃ y_ : List Int, y_ = (([rd l1_0 1, a3] : List Int)) := ⟨_, rfl⟩
             replace H : ((conv_of.f kj4 y273).bind fun bt276 => (if bt276.2.2 = 0 then (conv_BackIn.l0 kj4 a2 a3 (rd l1_0 0) (rd l1_0 1) (rd l1_0 2) (rd l0_0 1) (bt276.2.1.length : Int) 0 l0_0 l0_1 l1_0 l1_1 bt276.1 bt276.2.1) else (some (([] : List Int), ([] : List Int), bt276.2.2)))) = some (r1, r2, r3) := by first | (rw [hy273]; with_reducible exact H) | (have H2_ := (Option.bind_some _ _).symm.trans H; rw [hy273]; with_reducible exact H2_) | (have H2_ := (Option.bind_some _ _).symm.trans H; with_reducible exact H2_) | with_reducible exact H | (rw [hy273]; exact H) | exact H
             have Ny273 := Aside0.mk hy273
             clear hy273
             replace H := Option.bind_eq_some_iff.mp H
             obtain ⟨⟨t276, t279, t282⟩, A550, H⟩ := H
             (try dsimp only at H)
             have A55 := Aside0.mk A550
             clear A550
             by_cases c56 : t282 = 0
             ·rw [if_pos c56] at H
              have c56b0 : (t282 == 0) = true := beq_iff_eq.mpr c56
              have c56b1 : (t282 != 0) = false := bne_eq_false_iff_eq.mpr c56
              clear c56
              have H' := Aside0.mk H
              clear H
              try go_wp2
              replace BK257 := Aside0.mk (blk_drew BK257.out)
              replace BK258 := Aside0.mk (blk_drew BK258.out)
              replace BK259 := Aside0.mk (blk_drew BK259.out)
              replace HB := Aside0.mk (below_drew1 HB.out)
              have p264 : 0 ≤ (0 : Int) := (by omega)
              have q264 : 0 < (l1_0.length : Int) := of_decide_eq_true (by first | (with_reducible assumption) | assumption)
              obtain ⟨ad264, e264, hx264_0⟩ := Kd.at_int HR1_0.out 0 p264 q264
              have hw264_0 := hx264_0
              (try rw [show ((0 : Int)).toNat = 0 from rfl] at hw264_0)
              (try rw [show 0 * 1 = 0 from rfl] at hw264_0)
              (try rw [Addr.add_zero'] at hw264_0)
              cases e264
              have qi264 : (0 < l1_0.length) = True := eq_true (by omega)
              (try rw [show ((0 : Int)).toNat = 0 from rfl] at hx264_0)
              (try rw [Addr.add_zero'] at hx264_0)
              replace hx264_0 := (HB.out.cell (World.block_lt_of_cell? w _ hx264_0)).trans hx264_0
              replace p264 := eq_true p264
              replace q264 := eq_true q264
              have p265 : 0 ≤ (0 : Int) := (by omega)
              have q265 : 0 < (l0_0.length : Int) := of_decide_eq_true (by first | (with_reducible assumption) | assumption)
              obtain ⟨ad265, e265, hx265_0⟩ := Kd.at_int HR0_0.out 0 p265 q265
              have hw265_0 := hx265_0
              (try rw [show ((0 : Int)).toNat = 0 from rfl] at hw265_0)
              (try rw [show 0 * 1 = 0 from rfl] at hw265_0)
              (try rw [Addr.add_zero'] at hw265_0)
              cases e265
              have qi265 : (0 < l0_0.length) = True := eq_true (by omega)
              (try rw [show ((0 : Int)).toNat = 0 from rfl] at hx265_0)
              (try rw [Addr.add_zero'] at hx265_0)
              replace hx265_0 := (HB.out.cell (World.block_lt_of_cell? w _ hx265_0)).trans hx265_0
              replace p265 := eq_true p265
              replace q265 := eq_true q265
              have p266 : 0 ≤ (2 : Int) := (by omega)
              have q266 : 2 < (l1_0.length : Int) := of_decide_eq_true (by first | (with_reducible assumption) | assumption)
              obtain ⟨ad266, e266, hx266_0⟩ := Kd.at_int HR1_0.out 2 p266 q266
              have hw266_0 := hx266_0
              (try rw [show ((2 : Int)).toNat = 2 from rfl] at hw266_0)
              (try rw [show 2 * 1 = 2 from rfl] at hw266_0)
              (try simp only [Nat.reduceMul, Nat.reduceEqDiff, Go.Addr.add, ↓reduceIte] at hw266_0)
              obtain rfl : ad264 = ad266 := (by injection e266)
              (try simp only [show (2 : Int).toNat = 2 from rfl, Nat.reduceMul, Nat.reduceEqDiff, Go.Addr.add, ↓reduceIte] at hx266_0)
              have qi266 : (2 < l1_0.length) = True := eq_true (by omega)
              (try rw [show ((2 : Int)).toNat = 2 from rfl] at hx266_0)
              replace hx266_0 := (HB.out.cell (World.block_lt_of_cell? w _ hx266_0)).trans hx266_0
              replace p266 := eq_true p266
              replace q266 := eq_true q266
              have p268 : 0 ≤ (1 : Int) := (by omega)
              have q268 : 1 < (l0_0.length : Int) := of_decide_eq_true (by first | (with_reducible assumption) | assumption)
              obtain ⟨ad268, e268, hx268_0⟩ := Kd.at_int HR0_0.out 1 p268 q268
              have hw268_0 := hx268_0
              (try rw [show ((1 : Int)).toNat = 1 from rfl] at hw268_0)
              (try rw [show 1 * 1 = 1 from rfl] at hw268_0)
              (try simp only [Nat.reduceMul, Nat.reduceEqDiff, Go.Addr.add, ↓reduceIte] at hw268_0)
              obtain rfl : ad265 = ad268 := (by injection e268)
              (try simp only [show (1 : Int).toNat = 1 from rfl, Nat.reduceMul, Nat.reduceEqDiff, Go.Addr.add, ↓reduceIte] at hx268_0)
              have qi268 : (1 < l0_0.length) = True := eq_true (by omega)
              (try rw [show ((1 : Int)).toNat = 1 from rfl] at hx268_0)
              replace hx268_0 := (HB.out.cell (World.block_lt_of_cell? w _ hx268_0)).trans hx268_0
              replace p268 := eq_true p268
              replace q268 := eq_true q268
              refine start_ (n := 36) (S := fun w' => w'.cell? ⟨gb257, 0, none⟩ = some (.slice (some ad265) l0_0.length c0_0) ∧ w'.cell? ⟨gb257, 1, none⟩ = some (.slice A0_1 l0_1.length c0_1) ∧ w'.cell? ⟨gb258, 0, none⟩ = some (.slice (some ad264) l1_0.length c1_0) ∧ w'.cell? ⟨gb258, 1, none⟩ = some (.slice A1_1 l1_1.length c1_1) ∧ w'.cell? ad264 = some (.int .i64 (rd l1_0 0)) ∧ w'.cell? ad265 = some (.int .i64 (rd l0_0 0)) ∧ w'.cell? ⟨ad264.block, ad264.off + 2, none⟩ = some (.int .i64 (rd l1_0 2)) ∧ w'.cell? ⟨ad265.block, ad265.off + 1, none⟩ = some (.int .i64 (rd l0_0 1))) (ds := []) #[false, false, false, false, false, false, false, false, false, false, false, false, false, false, false, false, false, false, false, false, false, false, false, false, false, false, false, false, false, false, false, false, false, false, false, false] (by kernel_rfl) rfl rfl ⟨(blk_cell BK257.out 0).trans rfl, (blk_cell BK257.out 1).trans rfl, (blk_cell BK258.out 0).trans rfl, (blk_cell BK258.out 1).trans rfl, ((HB.out.cell (World.block_lt_of_cell? w _ hw264_0)).trans hw264_0), ((HB.out.cell (World.block_lt_of_cell? w _ hw265_0)).trans hw265_0), ((HB.out.cell (World.block_lt_of_cell? w _ hw266_0)).trans hw266_0), ((HB.out.cell (World.block_lt_of_cell? w _ hw268_0)).trans hw268_0)⟩ (fun hHeld => ?_); refine with_tabW conv_BackIn.tab3 conv_BackIn.bits3 (fun HT_ HW_ => ?_)
              generalize wc.drew = w57 at BK257 BK258 BK259 HB hx264_0 hx265_0 hx266_0 hx268_0 hHeld ⊢
              refine zp_ 0 (some 44) (h := ?_)
              refine zt_ 1 (some 45) (hr := by rintro w' ⟨s0, s1, s2, s3, s4, s5, s6, s7⟩; go_simp; with_reducible rfl) (h := ?_)
              refine zp_ 2 (some 46) (h := ?_)
              refine zp_ 3 (some 47) (h := ?_)
              refine zp_ 4 (some 48) (h := ?_)
              refine zp_ 5 (some 49) (h := ?_)
              refine zt_ 6 (some 50) (hr := by rintro w' ⟨s0, s1, s2, s3, s4, s5, s6, s7⟩; go_simp; with_reducible rfl) (h := ?_)
              refine zp_ 7 (some 51) (h := ?_)
              refine zp_ 8 (some 52) (h := ?_)
              refine zp_ 9 (some 53) (h := ?_)
              refine zp_ 10 (some 54) (h := ?_)
              refine zp_ 11 (some 55) (h := ?_)
              refine zp_ 15 (some 59) (h := ?_)
              refine zt_ 12 (some 56) (hr := by rintro w' ⟨s0, s1, s2, s3, s4, s5, s6, s7⟩; go_simp; with_reducible rfl) (h := ?_)
              refine zp_ 13 (some 57) (h := ?_)
              refine zt_ 14 (some 58) (hr := by rintro w' ⟨s0, s1, s2, s3, s4, s5, s6, s7⟩; go_simp; with_reducible rfl) (h := ?_)
              refine zt_ 16 (some 60) (hr := by rintro w' ⟨s0, s1, s2, s3, s4, s5, s6, s7⟩; go_simp; with_reducible rfl) (h := ?_)
              refine zp_ 17 (some 61) (h := ?_)
              refine zt_ 18 (some 62) (hr := by rintro w' ⟨s0, s1, s2, s3, s4, s5, s6, s7⟩; go_simp; with_reducible rfl) (h := ?_)
              refine zp_ 19 (some 63) (h := ?_)
              refine zp_ 20 (some 64) (h := ?_)
              refine zp_ 21 (some 65) (h := ?_)
              refine zp_ 22 (some 66) (h := ?_)
              refine zp_ 23 (some 67) (h := ?_)
              refine zp_ 27 (some 71) (h := ?_)
              refine zp_ 29 (some 73) (h := ?_)
              refine zt_ 24 (some 68) (hr := by rintro w' ⟨s0, s1, s2, s3, s4, s5, s6, s7⟩; go_simp; with_reducible rfl) (h := ?_)
              refine zp_ 25 (some 69) (h := ?_)
              refine zt_ 26 (some 70) (hr := by rintro w' ⟨s0, s1, s2, s3, s4, s5, s6, s7⟩; go_simp; with_reducible rfl) (h := ?_)
              refine zt_ 30 (some 74) (hr := by rintro w' ⟨s0, s1, s2, s3, s4, s5, s6, s7⟩; go_simp; with_reducible rfl) (h := ?_)
              refine zp_ 31 (some 75) (h := ?_)
              refine zt_ 32 (some 76) (hr := by rintro w' ⟨s0, s1, s2, s3, s4, s5, s6, s7⟩; go_simp; with_reducible rfl) (h := ?_)
              refine one_ (i := 28) (N := some 72) #[true, true, true, true, true, true, true, true, true, true, true, true, true, true, true, true, true, true, true, true, true, true, true, true, true, true, true, true, true, true, true, true, true, false, false, false] rfl rfl (one_of HT_.out (by kernel_rfl)) (by decide) (fun K hK => ?_)
              refine goes_ Try.func28 (by kernel_rfl) rfl #[.int .i64 a3, .int .i64 (rd l1_0 2), .int .i64 a2] (by rfl) rfl rfl (by (try simp only [List.map_toArray, List.map_cons, List.map_nil]); first | done | rfl | (simp only [List.length_drop, List.length_take]; rfl)) ?_
              with_reducible refine (conv_windows.calls a3 (rd l1_0 2) a2 t267 _ A51.out).mono ?_
              rintro e w' ⟨rfl, ⟨nd, rfl⟩⟩
              refine ⟨_, rfl, ?_⟩
              refine hK.out _ _ ⟨(blk_cell BK257.out 0).trans rfl, (blk_cell BK257.out 1).trans rfl, (blk_cell BK258.out 0).trans rfl, (blk_cell BK258.out 1).trans rfl, ((HB.out.cell (World.block_lt_of_cell? w _ hw264_0)).trans hw264_0), ((HB.out.cell (World.block_lt_of_cell? w _ hw265_0)).trans hw265_0), ((HB.out.cell (World.block_lt_of_cell? w _ hw266_0)).trans hw266_0), ((HB.out.cell (World.block_lt_of_cell? w _ hw268_0)).trans hw268_0)⟩ (fun hHeld => ?_)
              clear hK K
              refine zq_ (some 72) (h := ?_)
              refine zp_ 33 (some 77) (h := ?_)
              refine zp_ 34 (some 78) (h := ?_)
              refine zp_ 35 (some 43) (h := ?_)
              refine done_ (done_of HT_.out (by kernel_rfl)) ?_
              try go_wp2
              (try (rw [drewN_self w57]; generalize hq_ : World.drewN w57 _ = w57; have n0_ : Aside0 (w57.heap[gb257]? = some (.cells #[.slice (some ad265) l0_0.length c0_0, .slice A0_1 l0_1.length c0_1] 25 (0, 0))) := ⟨by rw [← hq_]; exact (zb_ BK257)⟩; have n1_ : Aside0 (w57.heap[gb258]? = some (.cells #[.slice (some ad264) l1_0.length c1_0, .slice A1_1 l1_1.length c1_1] 25 (0, 0))) := ⟨by rw [← hq_]; exact (zb_ BK258)⟩; have n2_ : Aside0 (w57.heap[gb259]? = some (.cells #[.slice none 0 0, .slice none 0 0] 25 (0, 0))) := ⟨by rw [← hq_]; exact (zb_ BK259)⟩; have n3_ : Aside0 (Below w.heap.size w w57) := ⟨by rw [← hq_]; exact (zw3_ HB GE257 GE258 GE259)⟩; clear BK257 BK258 BK259 HB hq_; have BK257 := n0_; have BK258 := n1_; have BK259 := n2_; have HB := n3_; clear n0_ n1_ n2_ n3_))
              replace BK257 := Aside0.mk (blk_drew BK257.out)
              replace BK258 := Aside0.mk (blk_drew BK258.out)
              replace BK259 := Aside0.mk (blk_drew BK259.out)
              replace HB := Aside0.mk (below_drew1 HB.out)
              have p269 : 0 ≤ (0 : Int) := (by omega)
              have q269 : 0 < (l1_0.length : Int) := of_decide_eq_true (by first | (with_reducible assumption) | assumption)
              obtain ⟨ad269, e269, hx269_0⟩ := Kd.at_int HR1_0.out 0 p269 q269
              have hw269_0 := hx269_0
              (try rw [show ((0 : Int)).toNat = 0 from rfl] at hw269_0)
              (try rw [show 0 * 1 = 0 from rfl] at hw269_0)
              (try rw [Addr.add_zero'] at hw269_0)
              obtain rfl : ad264 = ad269 := (by injection e269)
              have qi269 : (0 < l1_0.length) = True := eq_true (by omega)
              (try rw [show ((0 : Int)).toNat = 0 from rfl] at hx269_0)
              (try rw [Addr.add_zero'] at hx269_0)
              replace hx269_0 := (HB.out.cell (World.block_lt_of_cell? w _ hx269_0)).trans hx269_0
              replace p269 := eq_true p269
              replace q269 := eq_true q269
              have p270 : 0 ≤ (1 : Int) := (by omega)
              have q270 : 1 < (l1_0.length : Int) := of_decide_eq_true (by first | (with_reducible assumption) | assumption)
              obtain ⟨ad270, e270, hx270_0⟩ := Kd.at_int HR1_0.out 1 p270 q270
              have hw270_0 := hx270_0
              (try rw [show ((1 : Int)).toNat = 1 from rfl] at hw270_0)
              (try rw [show 1 * 1 = 1 from rfl] at hw270_0)
              (try simp only [Nat.reduceMul, Nat.reduceEqDiff, Go.Addr.add, ↓reduceIte] at hw270_0)
              obtain rfl : ad264 = ad270 := (by injection e270)
              (try simp only [show (1 : Int).toNat = 1 from rfl, Nat.reduceMul, Nat.reduceEqDiff, Go.Addr.add, ↓reduceIte] at hx270_0)
              have qi270 : (1 < l1_0.length) = True := eq_true (by omega)
              (try rw [show ((1 : Int)).toNat = 1 from rfl] at hx270_0)
              replace hx270_0 := (HB.out.cell (World.block_lt_of_cell? w _ hx270_0)).trans hx270_0
              replace p270 := eq_true p270
              replace q270 := eq_true q270
              have p271 : 0 ≤ (2 : Int) := (by omega)
              have q271 : 2 < (l1_0.length : Int) := of_decide_eq_true (by first | (with_reducible assumption) | assumption)
              obtain ⟨ad271, e271, hx271_0⟩ := Kd.at_int HR1_0.out 2 p271 q271
              have hw271_0 := hx271_0
              (try rw [show ((2 : Int)).toNat = 2 from rfl] at hw271_0)
              (try rw [show 2 * 1 = 2 from rfl] at hw271_0)
              (try simp only [Nat.reduceMul, Nat.reduceEqDiff, Go.Addr.add, ↓reduceIte] at hw271_0)
              obtain rfl : ad264 = ad271 := (by injection e271)
              (try simp only [show (2 : Int).toNat = 2 from rfl, Nat.reduceMul, Nat.reduceEqDiff, Go.Addr.add, ↓reduceIte] at hx271_0)
              have qi271 : (2 < l1_0.length) = True := eq_true (by omega)
              (try rw [show ((2 : Int)).toNat = 2 from rfl] at hx271_0)
              replace hx271_0 := (HB.out.cell (World.block_lt_of_cell? w _ hx271_0)).trans hx271_0
              replace p271 := eq_true p271
              replace q271 := eq_true q271
              have p272 : 0 ≤ (1 : Int) := (by omega)
              have q272 : 1 < (l0_0.length : Int) := of_decide_eq_true (by first | (with_reducible assumption) | assumption)
              obtain ⟨ad272, e272, hx272_0⟩ := Kd.at_int HR0_0.out 1 p272 q272
              have hw272_0 := hx272_0
              (try rw [show ((1 : Int)).toNat = 1 from rfl] at hw272_0)
              (try rw [show 1 * 1 = 1 from rfl] at hw272_0)
              (try simp only [Nat.reduceMul, Nat.reduceEqDiff, Go.Addr.add, ↓reduceIte] at hw272_0)
              obtain rfl : ad265 = ad272 := (by injection e272)
              (try simp only [show (1 : Int).toNat = 1 from rfl, Nat.reduceMul, Nat.reduceEqDiff, Go.Addr.add, ↓reduceIte] at hx272_0)
              have qi272 : (1 < l0_0.length) = True := eq_true (by omega)
              (try rw [show ((1 : Int)).toNat = 1 from rfl] at hx272_0)
              replace hx272_0 := (HB.out.cell (World.block_lt_of_cell? w _ hx272_0)).trans hx272_0
              replace p272 := eq_true p272
              replace q272 := eq_true q272
              refine start_ (n := 20) (S := fun w' => w'.cell? ⟨gb258, 0, none⟩ = some (.slice (some ad264) l1_0.length c1_0) ∧ w'.cell? ⟨gb258, 1, none⟩ = some (.slice A1_1 l1_1.length c1_1) ∧ w'.cell? ⟨gb257, 0, none⟩ = some (.slice (some ad265) l0_0.length c0_0) ∧ w'.cell? ⟨gb257, 1, none⟩ = some (.slice A0_1 l0_1.length c0_1) ∧ w'.cell? ad264 = some (.int .i64 (rd l1_0 0)) ∧ w'.cell? ⟨ad264.block, ad264.off + 1, none⟩ = some (.int .i64 (rd l1_0 1)) ∧ w'.cell? ⟨ad264.block, ad264.off + 2, none⟩ = some (.int .i64 (rd l1_0 2)) ∧ w'.cell? ⟨ad265.block, ad265.off + 1, none⟩ = some (.int .i64 (rd l0_0 1))) (ds := []) #[false, false, false, false, false, false, false, false, false, false, false, false, false, false, false, false, false, false, false, false] (by kernel_rfl) rfl rfl ⟨(blk_cell BK258.out 0).trans rfl, (blk_cell BK258.out 1).trans rfl, (blk_cell BK257.out 0).trans rfl, (blk_cell BK257.out 1).trans rfl, ((HB.out.cell (World.block_lt_of_cell? w _ hw269_0)).trans hw269_0), ((HB.out.cell (World.block_lt_of_cell? w _ hw270_0)).trans hw270_0), ((HB.out.cell (World.block_lt_of_cell? w _ hw271_0)).trans hw271_0), ((HB.out.cell (World.block_lt_of_cell? w _ hw272_0)).trans hw272_0)⟩ (fun hHeld => ?_); refine with_tabW conv_BackIn.tab5 conv_BackIn.bits5 (fun HT_ HW_ => ?_)
              generalize w57.drew = w58 at BK257 BK258 BK259 HB hx269_0 hx270_0 hx271_0 hx272_0 hHeld ⊢
              refine zp_ 0 (some 80) (h := ?_)
              refine zp_ 4 (some 84) (h := ?_)
              refine zp_ 8 (some 88) (h := ?_)
              refine zp_ 12 (some 92) (h := ?_)
              refine zt_ 1 (some 81) (hr := by rintro w' ⟨s0, s1, s2, s3, s4, s5, s6, s7⟩; go_simp; with_reducible rfl) (h := ?_)
              refine zp_ 2 (some 82) (h := ?_)
              refine zt_ 3 (some 83) (hr := by rintro w' ⟨s0, s1, s2, s3, s4, s5, s6, s7⟩; go_simp; with_reducible rfl) (h := ?_)
              refine zp_ 16 (some 10) (h := ?_)
              refine zt_ 5 (some 85) (hr := by rintro w' ⟨s0, s1, s2, s3, s4, s5, s6, s7⟩; go_simp; with_reducible rfl) (h := ?_)
              refine zp_ 6 (some 86) (h := ?_)
              refine zt_ 7 (some 87) (hr := by rintro w' ⟨s0, s1, s2, s3, s4, s5, s6, s7⟩; go_simp; with_reducible rfl) (h := ?_)
              refine zp_ 17 (some 11) (h := ?_)
              refine zt_ 9 (some 89) (hr := by rintro w' ⟨s0, s1, s2, s3, s4, s5, s6, s7⟩; go_simp; with_reducible rfl) (h := ?_)
              refine zp_ 10 (some 90) (h := ?_)
              refine zt_ 11 (some 91) (hr := by rintro w' ⟨s0, s1, s2, s3, s4, s5, s6, s7⟩; go_simp; with_reducible rfl) (h := ?_)
              refine zp_ 18 (some 12) (h := ?_)
              refine zt_ 13 (some 93) (hr := by rintro w' ⟨s0, s1, s2, s3, s4, s5, s6, s7⟩; go_simp; with_reducible rfl) (h := ?_)
              refine zp_ 14 (some 94) (h := ?_)
              refine zt_ 15 (some 95) (hr := by rintro w' ⟨s0, s1, s2, s3, s4, s5, s6, s7⟩; go_simp; with_reducible rfl) (h := ?_)
              refine zp_ 19 (some 13) (h := ?_)
              refine done_ (done_of HT_.out (by kernel_rfl)) ?_
              try go_wp2_with (first | ((with_reducible refine gate_dst (N := 99) rfl ?_); (try (refine gate_guard (by rfl) ?_; dsimp only)); refine Kd.R_lit (Kd.int .i64) _ 3 ?hg (N := 99) ?hd (xs := ([rd l1_0 1, a3] : List Int)) (inner := [.int .i64 (rd l1_0 1), .int .i64 a3]) (ok := fun _ => True) (okp := fun _ => True) ?hr ?hp (fun _ hk => hk) trivial (Below.refl _ _) (Nat.le_refl _) (by simp) ?_; (case hd => rfl); (case hg => rfl); (case hr => first | (go_simp; done) | (go_simp; rfl)); (case hp => exact (Reps.one (show Kd.M (Kd.int .i64) _ _ _ (rd l1_0 1) [.int .i64 (rd l1_0 1)] from rfl) (Reps.one (show Kd.M (Kd.int .i64) _ _ _ a3 [.int .i64 a3] from rfl) (Reps.none _ _)))); intro v274 w59 ho60 hb hg_ hnew_; clear hg_ hnew_; (first | rw [← Ny273.out] at ho60 | (simp only [Int.reduceToNat] at ho60; rw [← Ny273.out] at ho60)); have HO275 := Aside0.mk (Kd.R_lower ho60 (below_size (zw3_ HB GE257 GE258 GE259))); replace BK257 := Aside0.mk (zl_ BK257 hb); replace BK258 := Aside0.mk (zl_ BK258 hb); replace BK259 := Aside0.mk (zl_ BK259 hb); replace HB := Aside0.mk (below_step (zw3_ HB GE257 GE258 GE259) hb); clear hb ho60; obtain ⟨Ao61, co61, eo61⟩ := Kd.R_slice HO275.out; subst eo61) | ((with_reducible refine gate_callee (f := 29) rfl ?_); refine zg_ (some 100) Try.func29 #[.slice Ao61 y273.length co61] (h := ?_); (with_reducible refine (conv_of.calls kj4 _ _ y273 t276 t279 t282 _ ?side1 ?side2 A55.out).mono ?_); (case side1 => exact zk_ ((Kd.R_reads' HO275.out).2.2)); (case side2 => exact (Kd.R_reads' HO275.out).2.1); rintro e w62 ⟨v277, v280, rfl, ho0, ho1, hb⟩; refine ⟨_, rfl, ?_⟩; have HO278 := Aside0.mk (Kd.R_lower (Kd.R_new' ho0 (Kd.R_lt (zr_ HO275.out))) (below_size (zw3_ HB GE257 GE258 GE259))); replace HO275 := Aside0.mk (Kd.R_elder' (zr_ HO275.out) (Kd.R_base ho0) hb); have HO281 := Aside0.mk (Kd.R_lower ho1 (below_size (zw3_ HB GE257 GE258 GE259))); replace BK257 := Aside0.mk (zl_ BK257 hb); replace BK258 := Aside0.mk (zl_ BK258 hb); replace BK259 := Aside0.mk (zl_ BK259 hb); replace HB := Aside0.mk (below_step (zw3_ HB GE257 GE258 GE259) hb); (try clear hb); (try clear ho0); (try clear ho1)) | ((with_reducible refine gate_dst (N := 14) rfl ?_); (try (refine gate_guard (by rfl) ?_; dsimp only)); refine box_event ?hg (N := 14) ?hd (cs := #[.slice none 0 0, .slice none 0 0]) (t := 25) ?hr ?_; (case hd => rfl); (case hg => rfl); (case hr => first | (go_simp; done) | (go_simp; rfl)); intro gb283 hg w63 hbox hb; replace HO275 := Aside0.mk (Kd.R_below (zr_ HO275.out) hb); replace HO278 := Aside0.mk (Kd.R_below (zr_ HO278.out) hb); replace HO281 := Aside0.mk (Kd.R_below (zr_ HO281.out) hb); have BK283 := Aside0.mk (hbox); have GW283 := Aside0.mk (zs_ hg (zw3_ HB GE257 GE258 GE259)); have GE283 := Aside0.mk (zs_ hg (zw3_ HB GE257 GE258 GE259)); replace HB := Aside0.mk (below_step (zw3_ HB GE257 GE258 GE259) hb); have NB257_283 := Aside0.mk (zn_ hg BK257); have NB283_257 := Aside0.mk (zm_ hg BK257); replace BK257 := Aside0.mk (zl_ BK257 hb); have NB258_283 := Aside0.mk (zn_ hg BK258); have NB283_258 := Aside0.mk (zm_ hg BK258); replace BK258 := Aside0.mk (zl_ BK258 hb); have NB259_283 := Aside0.mk (zn_ hg BK259); have NB283_259 := Aside0.mk (zm_ hg BK259); replace BK259 := Aside0.mk (zl_ BK259 hb); clear hb hbox hg; obtain ⟨Ao64, co64, eo64⟩ := Kd.R_slice HO278.out; subst eo64; have hnb65 := NB283_257.out; have hnc65 := NB257_283.out; have hnb66 := NB283_258.out; have hnc66 := NB258_283.out; have hnb67 := NB283_259.out; have hnc67 := NB259_283.out; have hcz68_0 := zx_ (v := .slice none 0 0) BK283 0; have hcz68_1 := zx_ (v := .slice none 0 0) BK283 1; have hfz68_0 := blk_frozen BK283.out 0; have hfz68_1 := blk_frozen BK283.out 1; obtain ⟨Ao69, co69, eo69⟩ := Kd.R_slice HO281.out; subst eo69))
              go_loopg [110] kj4 (fun kq v110 w' => ∃ (x110_2 : Int) (x284001_2 : List Int) (u284001 : Value), v110 = .int .i64 x110_2 ∧ Aside0 (conv_BackIn.l0 kq a2 a3 (rd l1_0 0) (rd l1_0 1) (rd l1_0 2) (rd l0_0 1) (t279.length : Int) x110_2 l0_0 l0_1 l1_0 l1_1 t276 x284001_2 = some (r1, r2, r3)) ∧ Aside0 (kq ≤ kj4) ∧ Aside0 (Kd.R (Kd.int .i64) 3 w' w.heap.size (fun _ => True) (.slice Ao64 t276.length co64) t276) ∧ Aside0 (Kd.R (Kd.int .i64) 33 w' w.heap.size (fun _ => True) u284001 x284001_2) ∧ Aside0 (w'.heap[gb257]? = some (.cells #[(.slice (some ad265) l0_0.length c0_0), (.slice A0_1 l0_1.length c0_1)] 25 (0, 0))) ∧ Aside0 (w'.heap[gb258]? = some (.cells #[(.slice (some ad264) l1_0.length c1_0), (.slice A1_1 l1_1.length c1_1)] 25 (0, 0))) ∧ Aside0 (w'.heap[gb259]? = some (.cells #[(.slice none 0 0), (.slice none 0 0)] 25 (0, 0))) ∧ Aside0 (w'.heap[gb283]? = some (.cells #[(.slice Ao64 t276.length co64), u284001] 25 (0, 0))) ∧ Aside0 (Below w.heap.size w w'))
              case atStart => exact ⟨(0), (t279), (.slice Ao69 t279.length co69), (by first | rfl | (simp; done) | (simp [*]; done)), H', ⟨Nat.le_refl _⟩, ⟨zr_ (Kd.R_mono (Kd.R_far (p := ⟨gb283, 1, none⟩) (Kd.R_far (p := ⟨gb283, 0, none⟩) (Kd.R_types HO278.out BK283.out (by decide)) (fun _ hk => hk.2) (.slice Ao64 t276.length co64)) (fun _ hk => hk.2) (.slice Ao69 t279.length co69)) (fun _ hk => trivial))⟩, ⟨zr_ (Kd.R_mono (Kd.R_far (p := ⟨gb283, 1, none⟩) (Kd.R_far (p := ⟨gb283, 0, none⟩) (Kd.R_types HO281.out BK283.out (by decide)) (fun _ hk => hk.2) (.slice Ao64 t276.length co64)) (fun _ hk => hk.2) (.slice Ao69 t279.length co69)) (fun _ hk => trivial))⟩, ⟨by (with_reducible repeat (first | refine blk_drewN ?_ _ | refine blk_drew ?_ | refine blk_alloc ?_ _)); refine blk_far ?_ NB257_283.out _; (with_reducible repeat (first | refine blk_drewN ?_ _ | refine blk_drew ?_ | refine blk_alloc ?_ _)); refine blk_far ?_ NB257_283.out _; (with_reducible repeat (first | refine blk_drewN ?_ _ | refine blk_drew ?_ | refine blk_alloc ?_ _)); exact BK257.out⟩, ⟨by (with_reducible repeat (first | refine blk_drewN ?_ _ | refine blk_drew ?_ | refine blk_alloc ?_ _)); refine blk_far ?_ NB258_283.out _; (with_reducible repeat (first | refine blk_drewN ?_ _ | refine blk_drew ?_ | refine blk_alloc ?_ _)); refine blk_far ?_ NB258_283.out _; (with_reducible repeat (first | refine blk_drewN ?_ _ | refine blk_drew ?_ | refine blk_alloc ?_ _)); exact BK258.out⟩, ⟨by (with_reducible repeat (first | refine blk_drewN ?_ _ | refine blk_drew ?_ | refine blk_alloc ?_ _)); refine blk_far ?_ NB259_283.out _; (with_reducible repeat (first | refine blk_drewN ?_ _ | refine blk_drew ?_ | refine blk_alloc ?_ _)); refine blk_far ?_ NB259_283.out _; (with_reducible repeat (first | refine blk_drewN ?_ _ | refine blk_drew ?_ | refine blk_alloc ?_ _)); exact BK259.out⟩, ⟨by (with_reducible repeat (first | refine blk_drewN ?_ _ | refine blk_drew ?_ | refine blk_alloc ?_ _)); refine blk_put (cs := #[.slice Ao64 t276.length co64, .slice none 0 0]) ?_ 1 _ rfl; (with_reducible repeat (first | refine blk_drewN ?_ _ | refine blk_drew ?_ | refine blk_alloc ?_ _)); refine blk_put (cs := #[.slice none 0 0, .slice none 0 0]) ?_ 0 _ rfl; (with_reducible repeat (first | refine blk_drewN ?_ _ | refine blk_drew ?_ | refine blk_alloc ?_ _)); exact BK283.out⟩, ⟨zw4_ HB GE257 GE258 GE259 GE283⟩⟩
              case round =>
               clear H'
               try clear c1
               try clear c2
               try clear p2
               try clear q2
               try clear hx2
               try clear qi2
               try clear c6
               try clear p26
               try clear q26
               try clear hx26
               try clear qi26
               try clear p27
               try clear q27
               try clear hx27
               try clear qi27
               try clear c28
               try clear c29
               try clear c65
               try clear c66
               try clear c67
               try clear hcz68_0
               try clear hcz68_1
               try clear hfz68_0
               try clear hfz68_1
               try clear hx264_0
               try clear hx265_0
               try clear hx266_0
               try clear hx268_0
               try clear hx269_0
               try clear hx270_0
               try clear hx271_0
               try clear hx272_0
               try clear p264
               try clear p265
               try clear p266
               try clear p268
               try clear p269
               try clear p270
               try clear p271
               try clear p272
               try clear q264
               try clear q265
               try clear q266
               try clear q268
               try clear q269
               try clear q270
               try clear q271
               try clear q272
               obtain ⟨x110_2, x284001_2, u284001, rfl, HA, HK2, HO_284000, HO_284001, BK257, BK258, BK259, BK283, HB⟩ := hrel
               cases gk with
               | zero => exact absurd HA.out (by simp [conv_BackIn.l0])
               | succ k2 =>
                have H := HA.out
                clear HA
                simp only [conv_BackIn.l0] at H
                by_cases c70 : x110_2 < (t279.length : Int)
                ·rw [if_pos c70] at H
                 have c70b0 : decide (x110_2 < (t279.length : Int)) = true := decide_eq_true c70
                 clear c70
                 by_cases c71 : a3 = 0
                 ·rw [if_pos c71] at H
                  exact absurd H (by simp)
                 ·rw [if_neg c71] at H
                  have c71b0 : (a3 == 0) = false := beq_eq_false_iff_ne.mpr c71
                  have c71b1 : (a3 != 0) = true := bne_iff_ne.mpr c71
                  have H' := Aside0.mk H
                  clear H
                  try go_wp2
                  replace HO_284000 := Aside0.mk (Kd.R_drew HO_284000.out)
                  replace HO_284001 := Aside0.mk (Kd.R_drew HO_284001.out)
                  replace BK257 := Aside0.mk (blk_drew BK257.out)
                  replace BK258 := Aside0.mk (blk_drew BK258.out)
                  replace BK259 := Aside0.mk (blk_drew BK259.out)
                  replace BK283 := Aside0.mk (blk_drew BK283.out)
                  replace HB := Aside0.mk (below_drew1 HB.out)
                  refine start_ (n := 8) (S := fun w' => True) (ds := []) #[false, false, false, false, false, false, false, false] (by kernel_rfl) rfl rfl trivial (fun hHeld => ?_); refine with_tabW conv_BackIn.tab12 conv_BackIn.bits12 (fun HT_ HW_ => ?_)
                  generalize wr.drew = w72 at HO_284000 HO_284001 BK257 BK258 BK259 BK283 HB hHeld ⊢
                  refine zp_ 0 (some 113) (h := ?_)
                  refine zp_ 1 (some 114) (h := ?_)
                  refine zp_ 2 (some 115) (h := ?_)
                  refine zp_ 3 (some 116) (h := ?_)
                  refine zp_ 4 (some 117) (h := ?_)
                  refine zp_ 5 (some 118) (h := ?_)
                  refine zp_ 6 (some 17) (h := ?_)
                  refine zp_ 7 (some 18) (h := ?_)
                  refine done_ (done_of HT_.out (by kernel_rfl)) ?_
                  try go_wp2_with (first | ((with_reducible refine gate_dst (N := 19) rfl ?_); (try (refine gate_guard (by rfl) ?_; dsimp only)); refine box_event ?hg (N := 19) ?hd (cs := #[.int .i64 0, .int .i64 0, .int .u64 0]) (t := 54) ?hr ?_; (case hd => rfl); (case hg => rfl); (case hr => first | (go_simp; done) | (go_simp; rfl)); intro gb284 hg w73 hbox hb; replace HO_284000 := Aside0.mk (Kd.R_below (zr_ HO_284000.out) hb); replace HO_284001 := Aside0.mk (Kd.R_below (zr_ HO_284001.out) hb); have BK284 := Aside0.mk (hbox); have GW284 := Aside0.mk (zs_ hg (zw4_ HB GE257 GE258 GE259 GE283)); have GE284 := Aside0.mk (zs_ hg (zw4_ HB GE257 GE258 GE259 GE283)); replace HB := Aside0.mk (below_step (zw4_ HB GE257 GE258 GE259 GE283) hb); have NB257_284 := Aside0.mk (zn_ hg BK257); have NB284_257 := Aside0.mk (zm_ hg BK257); replace BK257 := Aside0.mk (zl_ BK257 hb); have NB258_284 := Aside0.mk (zn_ hg BK258); have NB284_258 := Aside0.mk (zm_ hg BK258); replace BK258 := Aside0.mk (zl_ BK258 hb); have NB259_284 := Aside0.mk (zn_ hg BK259); have NB284_259 := Aside0.mk (zm_ hg BK259); replace BK259 := Aside0.mk (zl_ BK259 hb); have NB283_284 := Aside0.mk (zn_ hg BK283); have NB284_283 := Aside0.mk (zm_ hg BK283); replace BK283 := Aside0.mk (zl_ BK283 hb); clear hb hbox hg))
                  go_loopg [120] k2 (fun kq v120 w' => ∃ (x120_3 : Int) (x285000_3 : Int) (x285001_3 : Int) (x285002_3 : Int), v120 = .int .i64 x120_3 ∧ Aside0 (conv_BackIn.l1 kq a2 a3 (rd l1_0 0) (rd l1_0 1) (rd l1_0 2) (rd l0_0 1) x110_2 (wrap64 (Int.tdiv x110_2 a3)) (Int.tmod x110_2 a3) (t279.length : Int) x110_2 (rd l1_0 0) x120_3 l0_0 l0_1 l1_0 l1_1 t276 x284001_2 x285000_3 x285001_3 x285002_3 = some (r1, r2, r3)) ∧ Aside0 (kq ≤ k2) ∧ Aside0 (Kd.R (Kd.int .i64) 3 w' w.heap.size (fun _ => True) (.slice Ao64 t276.length co64) t276) ∧ Aside0 (Kd.R (Kd.int .i64) 33 w' w.heap.size (fun _ => True) u284001 x284001_2) ∧ Aside0 (w'.heap[gb257]? = some (.cells #[(.slice (some ad265) l0_0.length c0_0), (.slice A0_1 l0_1.length c0_1)] 25 (0, 0))) ∧ Aside0 (w'.heap[gb258]? = some (.cells #[(.slice (some ad264) l1_0.length c1_0), (.slice A1_1 l1_1.length c1_1)] 25 (0, 0))) ∧ Aside0 (w'.heap[gb259]? = some (.cells #[(.slice none 0 0), (.slice none 0 0)] 25 (0, 0))) ∧ Aside0 (w'.heap[gb283]? = some (.cells #[(.slice Ao64 t276.length co64), u284001] 25 (0, 0))) ∧ Aside0 (w'.heap[gb284]? = some (.cells #[.int .i64 x285000_3, .int .i64 x285001_3, .int .u64 x285002_3] 54 (0, 0))) ∧ Aside0 (Below w.heap.size w w'))
                  case atStart => exact ⟨(0), (0), (0), (0), (by first | rfl | (simp; done) | (simp [*]; done)), H', ⟨Nat.le_refl _⟩, ⟨zr_ HO_284000.out⟩, ⟨zr_ HO_284001.out⟩, ⟨zb_ BK257⟩, ⟨zb_ BK258⟩, ⟨zb_ BK259⟩, ⟨zb_ BK283⟩, ⟨zb_ BK284⟩, ⟨zw5_ HB GE257 GE258 GE259 GE283 GE284⟩⟩
                  case round =>
                   clear H'
                   try clear c1
                   try clear c2
                   try clear p2
                   try clear q2
                   try clear hx2
                   try clear qi2
                   try clear c6
                   try clear p6
                   try clear c7
                   try clear p26
                   try clear q26
                   try clear hx26
                   try clear qi26
                   try clear p27
                   try clear q27
                   try clear hx27
                   try clear qi27
                   try clear c28
                   try clear c29
                   try clear p64
                   try clear c65
                   try clear c66
                   try clear c67
                   try clear c70
                   try clear c70b0
                   try clear c71
                   try clear c71b0
                   try clear c71b1
                   try clear hcz68_0
                   try clear hcz68_1
                   try clear hfz68_0
                   try clear hfz68_1
                   try clear hx264_0
                   try clear hx265_0
                   try clear hx266_0
                   try clear hx268_0
                   try clear hx269_0
                   try clear hx270_0
                   try clear hx271_0
                   try clear hx272_0
                   try clear p2
                   try clear p26
                   try clear p264
                   try clear p265
                   try clear p266
                   try clear p268
                   try clear p269
                   try clear p27
                   try clear p270
                   try clear p271
                   try clear p272
                   try clear q2
                   try clear q26
                   try clear q264
                   try clear q265
                   try clear q266
                   try clear q268
                   try clear q269
                   try clear q27
                   try clear q270
                   try clear q271
                   try clear q272
                   obtain ⟨x120_3, x285000_3, x285001_3, x285002_3, rfl, HA, HK3, HO_284000, HO_284001, BK257, BK258, BK259, BK283, BK284, HB⟩ := hrel
                   cases gk with
                   | zero => exact absurd HA.out (by simp [conv_BackIn.l1])
                   | succ k3 =>
                    have H := HA.out
                    clear HA
                    simp only [conv_BackIn.l1] at H
                    by_cases c74 : x120_3 < (rd l1_0 0)
                    ·rw [if_pos c74] at H
                     have c74b0 : decide (x120_3 < (rd l1_0 0)) = true := decide_eq_true c74
                     clear c74
                     obtain ⟨ji75, hji75⟩ : ∃ j_ : Int, (mn (rd l1_0 2) (wrap64 ((Int.tmod x110_2 a3) + 1))) = j_ := ⟨_, rfl⟩
                     replace H : (conv_BackIn.l2 k3 a2 a3 (rd l1_0 0) (rd l1_0 1) (rd l1_0 2) (rd l0_0 1) x110_2 (wrap64 (Int.tdiv x110_2 a3)) (Int.tmod x110_2 a3) x120_3 (t279.length : Int) x110_2 (rd l1_0 0) x120_3 ji75 0 l0_0 l0_1 l1_0 l1_1 t276 x284001_2 x285000_3 x285001_3 x285002_3) = some (r1, r2, r3) := by first | (rw [hji75] at H; exact H) | (simp only [hji75] at H ⊢; exact H)
                     have hji75_ : (if (wrap64 ((Int.tmod x110_2 a3) + 1)) < (rd l1_0 2) then (wrap64 ((Int.tmod x110_2 a3) + 1)) else (rd l1_0 2)) = ji75 := hji75
                     have H' := Aside0.mk H
                     clear H
                     go_wp2
                     go_loopg [127] k3 (fun kq v127 w' => ∃ (x127_4 : Int) (x285000_4 : Int) (x285001_4 : Int) (x285002_4 : Int), v127 = .int .i64 x127_4 ∧ Aside0 (conv_BackIn.l2 kq a2 a3 (rd l1_0 0) (rd l1_0 1) (rd l1_0 2) (rd l0_0 1) x110_2 (wrap64 (Int.tdiv x110_2 a3)) (Int.tmod x110_2 a3) x120_3 (t279.length : Int) x110_2 (rd l1_0 0) x120_3 ji75 x127_4 l0_0 l0_1 l1_0 l1_1 t276 x284001_2 x285000_4 x285001_4 x285002_4 = some (r1, r2, r3)) ∧ Aside0 (kq ≤ k3) ∧ Aside0 (Kd.R (Kd.int .i64) 3 w' w.heap.size (fun _ => True) (.slice Ao64 t276.length co64) t276) ∧ Aside0 (Kd.R (Kd.int .i64) 33 w' w.heap.size (fun _ => True) u284001 x284001_2) ∧ Aside0 (w'.heap[gb257]? = some (.cells #[(.slice (some ad265) l0_0.length c0_0), (.slice A0_1 l0_1.length c0_1)] 25 (0, 0))) ∧ Aside0 (w'.heap[gb258]? = some (.cells #[(.slice (some ad264) l1_0.length c1_0), (.slice A1_1 l1_1.length c1_1)] 25 (0, 0))) ∧ Aside0 (w'.heap[gb259]? = some (.cells #[(.slice none 0 0), (.slice none 0 0)] 25 (0, 0))) ∧ Aside0 (w'.heap[gb283]? = some (.cells #[(.slice Ao64 t276.length co64), u284001] 25 (0, 0))) ∧ Aside0 (w'.heap[gb284]? = some (.cells #[.int .i64 x285000_4, .int .i64 x285001_4, .int .u64 x285002_4] 54 (0, 0))) ∧ Aside0 (Below w.heap.size w w'))
                     case atStart => exact ⟨(0), (x285000_3), (x285001_3), (x285002_3), (by first | rfl | (simp; done) | (simp [*]; done)), H', ⟨Nat.le_refl _⟩, ⟨zr_ HO_284000.out⟩, ⟨zr_ HO_284001.out⟩, ⟨zb_ BK257⟩, ⟨zb_ BK258⟩, ⟨zb_ BK259⟩, ⟨zb_ BK283⟩, ⟨zb_ BK284⟩, ⟨zw5_ HB GE257 GE258 GE259 GE283 GE284⟩⟩
                     case round =>
                      clear H'
                      try clear c1
                      try clear c2
                      try clear p2
                      try clear q2
                      try clear hx2
                      try clear qi2
                      try clear c6
                      try clear p6
                      try clear c7
                      try clear p26
                      try clear q26
                      try clear hx26
                      try clear qi26
                      try clear p27
                      try clear q27
                      try clear hx27
                      try clear qi27
                      try clear c28
                      try clear c29
                      try clear p64
                      try clear c65
                      try clear c66
                      try clear c67
                      try clear c70
                      try clear c70b0
                      try clear c71
                      try clear c71b0
                      try clear c71b1
                      try clear c74
                      try clear c74b0
                      try clear hcz68_0
                      try clear hcz68_1
                      try clear hfz68_0
                      try clear hfz68_1
                      try clear hx264_0
                      try clear hx265_0
                      try clear hx266_0
                      try clear hx268_0
                      try clear hx269_0
                      try clear hx270_0
                      try clear hx271_0
                      try clear hx272_0
                      try clear p2
                      try clear p26
                      try clear p264
                      try clear p265
                      try clear p266
                      try clear p268
                      try clear p269
                      try clear p27
                      try clear p270
                      try clear p271
                      try clear p272
                      try clear p6
                      try clear p64
                      try clear q2
                      try clear q26
                      try clear q264
                      try clear q265
                      try clear q266
                      try clear q268
                      try clear q269
                      try clear q27
                      try clear q270
                      try clear q271
                      try clear q272
                      obtain ⟨x127_4, x285000_4, x285001_4, x285002_4, rfl, HA, HK4, HO_284000, HO_284001, BK257, BK258, BK259, BK283, BK284, HB⟩ := hrel
                      cases gk with
                      | zero => exact absurd HA.out (by simp [conv_BackIn.l2])
                      | succ k4 =>
                       have H := HA.out
                       clear HA
                       simp only [conv_BackIn.l2] at H
                       by_cases c76 : x127_4 < ji75
                       ·rw [if_pos c76] at H
                        have c76b0 : decide (x127_4 < ji75) = true := decide_eq_true c76
                        clear c76
                        by_cases c77 : a2 = 0
                        ·rw [if_pos c77] at H
                         exact absurd H (by simp)
                        ·rw [if_neg c77] at H
                         have c77b0 : (a2 == 0) = false := beq_eq_false_iff_ne.mpr c77
                         have c77b1 : (a2 != 0) = true := bne_iff_ne.mpr c77
                         by_cases c78 : (Int.tmod (wrap64 ((Int.tmod x110_2 a3) - x127_4)) a2) = 0
                         ·rw [if_pos c78] at H
                          have c78b0 : ((Int.tmod (wrap64 ((Int.tmod x110_2 a3) - x127_4)) a2) == 0) = true := beq_iff_eq.mpr c78
                          have c78b1 : ((Int.tmod (wrap64 ((Int.tmod x110_2 a3) - x127_4)) a2) != 0) = false := bne_eq_false_iff_eq.mpr c78
                          clear c78
                          by_cases c79 : (wrap64 (Int.tdiv (wrap64 ((Int.tmod x110_2 a3) - x127_4)) a2)) < (rd l0_0 1)
                          ·rw [if_pos c79] at H
                           have c79b0 : decide ((wrap64 (Int.tdiv (wrap64 ((Int.tmod x110_2 a3) - x127_4)) a2)) < (rd l0_0 1)) = true := decide_eq_true c79
                           clear c79
                           obtain ⟨ji80, hji80⟩ : ∃ j_ : Int, (wrap64 ((wrap64 (x120_3 * (rd l0_0 1))) + (wrap64 (Int.tdiv (wrap64 ((Int.tmod x110_2 a3) - x127_4)) a2)))) = j_ := ⟨_, rfl⟩
                           replace H : (if 0 ≤ (ji80) then (if (ji80) < (l0_1.length : Int) then (if 0 ≤ (wrap64 ((wrap64 ((wrap64 ((wrap64 (x120_3 * (rd l1_0 1))) + (wrap64 (Int.tdiv x110_2 a3)))) * (rd l1_0 2))) + x127_4)) then (if (wrap64 ((wrap64 ((wrap64 ((wrap64 (x120_3 * (rd l1_0 1))) + (wrap64 (Int.tdiv x110_2 a3)))) * (rd l1_0 2))) + x127_4)) < (l1_1.length : Int) then ((wide_Acc_Plus.f x285000_4 x285001_4 x285002_4 (rd l0_1 (ji80)) (rd l1_1 (wrap64 ((wrap64 ((wrap64 ((wrap64 (x120_3 * (rd l1_0 1))) + (wrap64 (Int.tdiv x110_2 a3)))) * (rd l1_0 2))) + x127_4)))).bind fun bt289 => (conv_BackIn.l2 k4 a2 a3 (rd l1_0 0) (rd l1_0 1) (rd l1_0 2) (rd l0_0 1) x110_2 (wrap64 (Int.tdiv x110_2 a3)) (Int.tmod x110_2 a3) x120_3 (t279.length : Int) x110_2 (rd l1_0 0) x120_3 ji75 (wrap64 (x127_4 + 1)) l0_0 l0_1 l1_0 l1_1 t276 x284001_2 bt289.1 bt289.2.1 bt289.2.2)) else (none)) else (none)) else (none)) else (none)) = some (r1, r2, r3) := by first | (rw [hji80] at H; exact H) | (simp only [hji80] at H ⊢; exact H)
                           have hji80w : (IntKind.i64.wrap ((wrap64 (x120_3 * (rd l0_0 1))) + (wrap64 (Int.tdiv (wrap64 ((Int.tmod x110_2 a3) - x127_4)) a2)))) = ji80 := (i64_w _).trans hji80
                           by_cases c81 : 0 ≤ (ji80)
                           ·rw [if_pos c81] at H
                            have c81b0 : decide (0 ≤ (ji80)) = true := decide_eq_true c81
                            clear c81
                            by_cases c82 : (ji80) < (l0_1.length : Int)
                            ·rw [if_pos c82] at H
                             have c82b0 : decide ((ji80) < (l0_1.length : Int)) = true := decide_eq_true c82
                             clear c82
                             obtain ⟨ji83, hji83⟩ : ∃ j_ : Int, (wrap64 ((wrap64 ((wrap64 ((wrap64 (x120_3 * (rd l1_0 1))) + (wrap64 (Int.tdiv x110_2 a3)))) * (rd l1_0 2))) + x127_4)) = j_ := ⟨_, rfl⟩
                             replace H : (if 0 ≤ (ji83) then (if (ji83) < (l1_1.length : Int) then ((wide_Acc_Plus.f x285000_4 x285001_4 x285002_4 (rd l0_1 (ji80)) (rd l1_1 (ji83))).bind fun bt289 => (conv_BackIn.l2 k4 a2 a3 (rd l1_0 0) (rd l1_0 1) (rd l1_0 2) (rd l0_0 1) x110_2 (wrap64 (Int.tdiv x110_2 a3)) (Int.tmod x110_2 a3) x120_3 (t279.length : Int) x110_2 (rd l1_0 0) x120_3 ji75 (wrap64 (x127_4 + 1)) l0_0 l0_1 l1_0 l1_1 t276 x284001_2 bt289.1 bt289.2.1 bt289.2.2)) else (none)) else (none)) = some (r1, r2, r3) := by first | (rw [hji83] at H; exact H) | (simp only [hji83] at H ⊢; exact H)
                             have hji83w : (IntKind.i64.wrap ((wrap64 ((wrap64 ((wrap64 (x120_3 * (rd l1_0 1))) + (wrap64 (Int.tdiv x110_2 a3)))) * (rd l1_0 2))) + x127_4)) = ji83 := (i64_w _).trans hji83
                             by_cases c84 : 0 ≤ (ji83)
                             ·rw [if_pos c84] at H
                              have c84b0 : decide (0 ≤ (ji83)) = true := decide_eq_true c84
                              clear c84
                              by_cases c85 : (ji83) < (l1_1.length : Int)
                              ·rw [if_pos c85] at H
                               have c85b0 : decide ((ji83) < (l1_1.length : Int)) = true := decide_eq_true c85
                               clear c85
                               replace H := Option.bind_eq_some_iff.mp H
                               obtain ⟨⟨t289, t290, t291⟩, A860, H⟩ := H
                               (try dsimp only at H)
                               have A86 := Aside0.mk A860
                               clear A860
                               have H' := Aside0.mk H
                               clear H
                               have hnb87 := NB284_257.out
                               have hnc87 := NB257_284.out
                               have hnb88 := NB284_258.out
                               have hnc88 := NB258_284.out
                               have hnb89 := NB284_259.out
                               have hnc89 := NB259_284.out
                               have hnb90 := NB284_283.out
                               have hnc90 := NB283_284.out
                               have hcz91_0 := zx_ (v := .int .i64 x285000_4) BK284 0
                               have hcz91_1 := zx_ (v := .int .i64 x285001_4) BK284 1
                               have hcz91_2 := zx_ (v := .int .u64 x285002_4) BK284 2
                               have hfz91_0 := blk_frozen BK284.out 0
                               have hfz91_1 := blk_frozen BK284.out 1
                               have hfz91_2 := blk_frozen BK284.out 2
                               try go_wp2
                               replace HO_284000 := Aside0.mk (Kd.R_drew HO_284000.out)
                               replace HO_284001 := Aside0.mk (Kd.R_drew HO_284001.out)
                               replace BK257 := Aside0.mk (blk_drew BK257.out)
                               replace BK258 := Aside0.mk (blk_drew BK258.out)
                               replace BK259 := Aside0.mk (blk_drew BK259.out)
                               replace BK283 := Aside0.mk (blk_drew BK283.out)
                               replace BK284 := Aside0.mk (blk_drew BK284.out)
                               replace HB := Aside0.mk (below_drew1 HB.out)
                               have p287 : 0 ≤ ((ji80) : Int) := of_decide_eq_true (by first | (with_reducible assumption) | assumption)
                               have q287 : (ji80) < (l0_1.length : Int) := of_decide_eq_true (by first | (with_reducible assumption) | assumption)
                               obtain ⟨ad287, e287, hx287_0⟩ := Kd.at_int HR0_1.out (ji80) p287 q287
                               have hw287_0 := hx287_0
                               cases e287
                               replace hx287_0 := (HB.out.cell (World.block_lt_of_cell? w _ hx287_0)).trans hx287_0
                               replace p287 := eq_true p287
                               replace q287 := eq_true q287
                               have p288 : 0 ≤ ((ji83) : Int) := of_decide_eq_true (by first | (with_reducible assumption) | assumption)
                               have q288 : (ji83) < (l1_1.length : Int) := of_decide_eq_true (by first | (with_reducible assumption) | assumption)
                               obtain ⟨ad288, e288, hx288_0⟩ := Kd.at_int HR1_1.out (ji83) p288 q288
                               have hw288_0 := hx288_0
                               cases e288
                               replace hx288_0 := (HB.out.cell (World.block_lt_of_cell? w _ hx288_0)).trans hx288_0
                               replace p288 := eq_true p288
                               replace q288 := eq_true q288
                               refine start_ (n := 23) (S := fun w' => w'.cell? ⟨gb257, 0, none⟩ = some (.slice (some ad265) l0_0.length c0_0) ∧ w'.cell? ⟨gb257, 1, none⟩ = some (.slice (some ad287) l0_1.length c0_1) ∧ w'.cell? ⟨gb258, 0, none⟩ = some (.slice (some ad264) l1_0.length c1_0) ∧ w'.cell? ⟨gb258, 1, none⟩ = some (.slice (some ad288) l1_1.length c1_1) ∧ w'.cell? (ad287.add ((ji80)).toNat) = some (.int .i64 (rd l0_1 (ji80))) ∧ w'.cell? (ad288.add ((ji83)).toNat) = some (.int .i64 (rd l1_1 (ji83)))) (ds := [22]) #[false, false, false, false, false, false, false, false, false, false, false, false, false, false, false, false, false, false, false, false, false, false, false] (by kernel_rfl) rfl rfl ⟨(blk_cell BK257.out 0).trans rfl, (blk_cell BK257.out 1).trans rfl, (blk_cell BK258.out 0).trans rfl, (blk_cell BK258.out 1).trans rfl, ((HB.out.cell (World.block_lt_of_cell? w _ hw287_0)).trans hw287_0), ((HB.out.cell (World.block_lt_of_cell? w _ hw288_0)).trans hw288_0)⟩ (fun hHeld => ?_); refine with_tabW conv_BackIn.tab22 conv_BackIn.bits22 (fun HT_ HW_ => ?_)
                               generalize wr.drew = w92 at HO_284000 HO_284001 BK257 BK258 BK259 BK283 BK284 HB hx287_0 hx288_0 hHeld ⊢
                               refine zp_ 0 (some 146) (h := ?_)
                               refine zp_ 2 (some 148) (h := ?_)
                               refine zp_ 3 (some 149) (h := ?_)
                               refine zp_ 4 (some 150) (h := ?_)
                               refine zp_ 5 (some 151) (h := ?_)
                               refine zp_ 6 (some 152) (h := ?_)
                               refine zp_ 9 (some 155) (h := ?_)
                               refine zp_ 11 (some 157) (h := ?_)
                               refine zp_ 12 (some 158) (h := ?_)
                               refine zp_ 13 (some 159) (h := ?_)
                               refine zp_ 14 (some 160) (h := ?_)
                               refine zp_ 15 (some 161) (h := ?_)
                               refine zp_ 16 (some 162) (h := ?_)
                               refine zp_ 17 (some 163) (h := ?_)
                               refine zp_ 18 (some 164) (h := ?_)
                               refine zp_ 19 (some 165) (h := ?_)
                               refine zt_ 1 (some 147) (hr := by rintro w' ⟨s0, s1, s2, s3, s4, s5⟩; go_simp; with_reducible rfl) (h := ?_)
                               refine zp_ 7 (some 153) (h := ?_)
                               refine zt_ 8 (some 154) (hr := by rintro w' ⟨s0, s1, s2, s3, s4, s5⟩; go_simp; with_reducible rfl) (h := ?_)
                               refine zt_ 10 (some 156) (hr := by rintro w' ⟨s0, s1, s2, s3, s4, s5⟩; go_simp; with_reducible rfl) (h := ?_)
                               refine zp_ 20 (some 166) (h := ?_)
                               refine zt_ 21 (some 167) (hr := by rintro w' ⟨s0, s1, s2, s3, s4, s5⟩; go_simp; with_reducible rfl) (h := ?_)
                               refine last_ (i := 22) (N := some 168) #[true, true, true, true, true, true, true, true, true, true, true, true, true, true, true, true, true, true, true, true, true, true, true] rfl rfl (one_of HT_.out (by kernel_rfl)) (by decide) (fun K hK => ?_)
                               refine goes_ Try.func30 (by kernel_rfl) rfl #[.pointer (some ⟨gb284, 0, none⟩), .int .i64 (rd l0_1 (ji80)), .int .i64 (rd l1_1 (ji83))] (by rfl) rfl rfl (by (try simp only [List.map_toArray, List.map_cons, List.map_nil]); first | done | (simp only [hji80, hji83]; rfl) | rfl | (simp only [List.length_drop, List.length_take]; rfl)) ?_
                               with_reducible refine (wide_Acc_Plus.calls gb284 x285000_4 x285001_4 x285002_4 (rd l0_1 (ji80)) (rd l1_1 (ji83)) t289 t290 t291 _ (zb_ BK284) A86.out).mono ?_
                               rintro e _ ⟨rfl, w93, hb, rfl⟩
                               refine ⟨_, rfl, ?_⟩
                               replace HO_284000 := Aside0.mk (Kd.R_below (zr_ HO_284000.out) hb)
                               replace HO_284001 := Aside0.mk (Kd.R_below (zr_ HO_284001.out) hb)
                               replace BK257 := Aside0.mk (zl_ BK257 hb)
                               replace BK258 := Aside0.mk (zl_ BK258 hb)
                               replace BK259 := Aside0.mk (zl_ BK259 hb)
                               replace BK283 := Aside0.mk (zl_ BK283 hb)
                               replace BK284 := Aside0.mk (zl_ BK284 hb)
                               replace HB := Aside0.mk (below_step (zw5_ HB GE257 GE258 GE259 GE283 GE284) hb)
                               (try clear hb)
                               (try clear hb2)
                               (try clear hk)
                               (try clear hi)
                               refine hK.out _ _ ?_
                               clear hK K
                               refine zq_ (some 168) (h := ?_)
                               refine done_ (done_of HT_.out (by kernel_rfl)) ?_
                               have hcz94_0 := zx_ (v := .int .i64 x285000_4) BK284 0
                               have hcz94_1 := zx_ (v := .int .i64 x285001_4) BK284 1
                               have hcz94_2 := zx_ (v := .int .u64 x285002_4) BK284 2
                               have hfz94_0 := blk_frozen BK284.out 0
                               have hfz94_1 := blk_frozen BK284.out 1
                               have hfz94_2 := blk_frozen BK284.out 2
                               try go_wp2
                               go_roundg k4
                               case measure => have := HJ4.out; have := HK2.out; have := HK3.out; have := HK4.out; omega
                               case rel => exact ⟨(wrap64 (x127_4 + 1)), (t289), (t290), (t291), (by first | rfl | (simp; done) | (simp [*]; done)), H', ⟨by have := HJ4.out; have := HK2.out; have := HK3.out; have := HK4.out; omega⟩, ⟨zr_ (Kd.R_mono (Kd.R_far (p := ⟨gb284, 2, none⟩) (Kd.R_far (p := ⟨gb284, 1, none⟩) (Kd.R_far (p := ⟨gb284, 0, none⟩) (Kd.R_types HO_284000.out BK284.out (by decide)) (fun _ hk => hk.2) (.int .i64 t289)) (fun _ hk => hk.2) (.int .i64 t290)) (fun _ hk => hk.2) (.int .u64 t291)) (fun _ hk => trivial))⟩, ⟨zr_ (Kd.R_mono (Kd.R_far (p := ⟨gb284, 2, none⟩) (Kd.R_far (p := ⟨gb284, 1, none⟩) (Kd.R_far (p := ⟨gb284, 0, none⟩) (Kd.R_types HO_284001.out BK284.out (by decide)) (fun _ hk => hk.2) (.int .i64 t289)) (fun _ hk => hk.2) (.int .i64 t290)) (fun _ hk => hk.2) (.int .u64 t291)) (fun _ hk => trivial))⟩, ⟨by (with_reducible repeat (first | refine blk_drewN ?_ _ | refine blk_drew ?_ | refine blk_alloc ?_ _)); refine blk_far ?_ NB257_284.out _; (with_reducible repeat (first | refine blk_drewN ?_ _ | refine blk_drew ?_ | refine blk_alloc ?_ _)); refine blk_far ?_ NB257_284.out _; (with_reducible repeat (first | refine blk_drewN ?_ _ | refine blk_drew ?_ | refine blk_alloc ?_ _)); refine blk_far ?_ NB257_284.out _; (with_reducible repeat (first | refine blk_drewN ?_ _ | refine blk_drew ?_ | refine blk_alloc ?_ _)); exact BK257.out⟩, ⟨by (with_reducible repeat (first | refine blk_drewN ?_ _ | refine blk_drew ?_ | refine blk_alloc ?_ _)); refine blk_far ?_ NB258_284.out _; (with_reducible repeat (first | refine blk_drewN ?_ _ | refine blk_drew ?_ | refine blk_alloc ?_ _)); refine blk_far ?_ NB258_284.out _; (with_reducible repeat (first | refine blk_drewN ?_ _ | refine blk_drew ?_ | refine blk_alloc ?_ _)); refine blk_far ?_ NB258_284.out _; (with_reducible repeat (first | refine blk_drewN ?_ _ | refine blk_drew ?_ | refine blk_alloc ?_ _)); exact BK258.out⟩, ⟨by (with_reducible repeat (first | refine blk_drewN ?_ _ | refine blk_drew ?_ | refine blk_alloc ?_ _)); refine blk_far ?_ NB259_284.out _; (with_reducible repeat (first | refine blk_drewN ?_ _ | refine blk_drew ?_ | refine blk_alloc ?_ _)); refine blk_far ?_ NB259_284.out _; (with_reducible repeat (first | refine blk_drewN ?_ _ | refine blk_drew ?_ | refine blk_alloc ?_ _)); refine blk_far ?_ NB259_284.out _; (with_reducible repeat (first | refine blk_drewN ?_ _ | refine blk_drew ?_ | refine blk_alloc ?_ _)); exact BK259.out⟩, ⟨by (with_reducible repeat (first | refine blk_drewN ?_ _ | refine blk_drew ?_ | refine blk_alloc ?_ _)); refine blk_far ?_ NB283_284.out _; (with_reducible repeat (first | refine blk_drewN ?_ _ | refine blk_drew ?_ | refine blk_alloc ?_ _)); refine blk_far ?_ NB283_284.out _; (with_reducible repeat (first | refine blk_drewN ?_ _ | refine blk_drew ?_ | refine blk_alloc ?_ _)); refine blk_far ?_ NB283_284.out _; (with_reducible repeat (first | refine blk_drewN ?_ _ | refine blk_drew ?_ | refine blk_alloc ?_ _)); exact BK283.out⟩, ⟨by (with_reducible repeat (first | refine blk_drewN ?_ _ | refine blk_drew ?_ | refine blk_alloc ?_ _)); refine blk_put (cs := #[.int .i64 t289, .int .i64 t290, .int .u64 x285002_4]) ?_ 2 _ rfl; (with_reducible repeat (first | refine blk_drewN ?_ _ | refine blk_drew ?_ | refine blk_alloc ?_ _)); refine blk_put (cs := #[.int .i64 t289, .int .i64 x285001_4, .int .u64 x285002_4]) ?_ 1 _ rfl; (with_reducible repeat (first | refine blk_drewN ?_ _ | refine blk_drew ?_ | refine blk_alloc ?_ _)); refine blk_put (cs := #[.int .i64 x285000_4, .int .i64 x285001_4, .int .u64 x285002_4]) ?_ 0 _ rfl; (with_reducible repeat (first | refine blk_drewN ?_ _ | refine blk_drew ?_ | refine blk_alloc ?_ _)); exact BK284.out⟩, ⟨zw5_ HB GE257 GE258 GE259 GE283 GE284⟩⟩
                              ·rw [if_neg c85] at H
                               exact absurd H (by simp)
                             ·rw [if_neg c84] at H
                              exact absurd H (by simp)
                            ·rw [if_neg c82] at H
                             exact absurd H (by simp)
                           ·rw [if_neg c81] at H
                            exact absurd H (by simp)
                          ·rw [if_neg c79] at H
                           have c79b0 : decide ((wrap64 (Int.tdiv (wrap64 ((Int.tmod x110_2 a3) - x127_4)) a2)) < (rd l0_0 1)) = false := decide_eq_false c79
                           clear c79
                           have H' := Aside0.mk H
                           clear H
                           go_wp2
                           go_roundg k4
                           case measure => have := HJ4.out; have := HK2.out; have := HK3.out; have := HK4.out; omega
                           case rel => exact ⟨(wrap64 (x127_4 + 1)), (x285000_4), (x285001_4), (x285002_4), (by first | rfl | (simp; done) | (simp [*]; done)), H', ⟨by have := HJ4.out; have := HK2.out; have := HK3.out; have := HK4.out; omega⟩, ⟨zr_ HO_284000.out⟩, ⟨zr_ HO_284001.out⟩, ⟨zb_ BK257⟩, ⟨zb_ BK258⟩, ⟨zb_ BK259⟩, ⟨zb_ BK283⟩, ⟨zb_ BK284⟩, ⟨zw5_ HB GE257 GE258 GE259 GE283 GE284⟩⟩
                         ·rw [if_neg c78] at H
                          have c78b0 : ((Int.tmod (wrap64 ((Int.tmod x110_2 a3) - x127_4)) a2) == 0) = false := beq_eq_false_iff_ne.mpr c78
                          have c78b1 : ((Int.tmod (wrap64 ((Int.tmod x110_2 a3) - x127_4)) a2) != 0) = true := bne_iff_ne.mpr c78
                          have H' := Aside0.mk H
                          clear H
                          go_wp2
                          go_roundg k4
                          case measure => have := HJ4.out; have := HK2.out; have := HK3.out; have := HK4.out; omega
                          case rel => exact ⟨(wrap64 (x127_4 + 1)), (x285000_4), (x285001_4), (x285002_4), (by first | rfl | (simp; done) | (simp [*]; done)), H', ⟨by have := HJ4.out; have := HK2.out; have := HK3.out; have := HK4.out; omega⟩, ⟨zr_ HO_284000.out⟩, ⟨zr_ HO_284001.out⟩, ⟨zb_ BK257⟩, ⟨zb_ BK258⟩, ⟨zb_ BK259⟩, ⟨zb_ BK283⟩, ⟨zb_ BK284⟩, ⟨zw5_ HB GE257 GE258 GE259 GE283 GE284⟩⟩
                       ·rw [if_neg c76] at H
                        have c76b0 : decide (x127_4 < ji75) = false := decide_eq_false c76
                        clear c76
                        have H' := Aside0.mk H
                        clear H
                        go_wp2
                        go_roundg k4
                        case measure => have := HJ4.out; have := HK2.out; have := HK3.out; have := HK4.out; omega
                        case rel => exact ⟨(wrap64 (x120_3 + 1)), (x285000_4), (x285001_4), (x285002_4), (by first | rfl | (simp; done) | (simp [*]; done)), H', ⟨by have := HJ4.out; have := HK2.out; have := HK3.out; have := HK4.out; omega⟩, ⟨zr_ HO_284000.out⟩, ⟨zr_ HO_284001.out⟩, ⟨zb_ BK257⟩, ⟨zb_ BK258⟩, ⟨zb_ BK259⟩, ⟨zb_ BK283⟩, ⟨zb_ BK284⟩, ⟨zw5_ HB GE257 GE258 GE259 GE283 GE284⟩⟩
                    ·rw [if_neg c74] at H
                     have c74b0 : decide (x120_3 < (rd l1_0 0)) = false := decide_eq_false c74
                     clear c74
                     replace H := Option.bind_eq_some_iff.mp H
                     obtain ⟨t285, A950, H⟩ := H
                     (try dsimp only at H)
                     have A95 := Aside0.mk A950
                     clear A950
                     by_cases c96 : 0 ≤ x110_2
                     ·rw [if_pos c96] at H
                      have c96b0 : decide (0 ≤ x110_2) = true := decide_eq_true c96
                      clear c96
                      by_cases c97 : x110_2 < (x284001_2.length : Int)
                      ·rw [if_pos c97] at H
                       have c97b0 : decide (x110_2 < (x284001_2.length : Int)) = true := decide_eq_true c97
                       clear c97
                       obtain ⟨y286, hy286⟩ : ∃ y_ : List Int, y_ = (x284001_2.set (x110_2 : Int).toNat t285) := ⟨_, rfl⟩
                       replace H : (conv_BackIn.l0 k3 a2 a3 (rd l1_0 0) (rd l1_0 1) (rd l1_0 2) (rd l0_0 1) (t279.length : Int) (wrap64 (x110_2 + 1)) l0_0 l0_1 l1_0 l1_1 t276 y286) = some (r1, r2, r3) := by first | (rw [hy286]; with_reducible exact H) | (have H2_ := (Option.bind_some _ _).symm.trans H; rw [hy286]; with_reducible exact H2_) | (have H2_ := (Option.bind_some _ _).symm.trans H; with_reducible exact H2_) | with_reducible exact H | (rw [hy286]; exact H) | exact H
                       have Ny286 := Aside0.mk hy286
                       clear hy286
                       have H' := Aside0.mk H
                       clear H
                       have hnb99 := NB284_257.out
                       have hnc99 := NB257_284.out
                       have hnb100 := NB284_258.out
                       have hnc100 := NB258_284.out
                       have hnb101 := NB284_259.out
                       have hnc101 := NB259_284.out
                       have hnb102 := NB284_283.out
                       have hnc102 := NB283_284.out
                       have hcz103_0 := zx_ (v := .int .i64 x285000_3) BK284 0
                       have hcz103_1 := zx_ (v := .int .i64 x285001_3) BK284 1
                       have hcz103_2 := zx_ (v := .int .u64 x285002_3) BK284 2
                       have hfz103_0 := blk_frozen BK284.out 0
                       have hfz103_1 := blk_frozen BK284.out 1
                       have hfz103_2 := blk_frozen BK284.out 2
                       try go_wp2
                       replace HO_284000 := Aside0.mk (Kd.R_drew HO_284000.out)
                       replace HO_284001 := Aside0.mk (Kd.R_drew HO_284001.out)
                       replace BK257 := Aside0.mk (blk_drew BK257.out)
                       replace BK258 := Aside0.mk (blk_drew BK258.out)
                       replace BK259 := Aside0.mk (blk_drew BK259.out)
                       replace BK283 := Aside0.mk (blk_drew BK283.out)
                       replace BK284 := Aside0.mk (blk_drew BK284.out)
                       replace HB := Aside0.mk (below_drew1 HB.out)
                       refine start_ (n := 6) (S := fun w' => w'.cell? ⟨gb283, 0, none⟩ = some (.slice Ao64 t276.length co64) ∧ w'.cell? ⟨gb283, 1, none⟩ = some (u284001)) (ds := [5]) #[false, false, false, false, false, false] (by kernel_rfl) rfl rfl ⟨(blk_cell BK283.out 0).trans rfl, (blk_cell BK283.out 1).trans rfl⟩ (fun hHeld => ?_)
                       generalize wr.drew = w104 at HO_284000 HO_284001 BK257 BK258 BK259 BK283 BK284 HB hHeld ⊢
                       refine pure_ (i := 0) (N := some 171) (v := ?_) (a' := ?_) #[true, false, false, false, false, false] rfl rfl (by kernel_rfl) (fun _ _ _ h => h) (Or.inl ⟨by rfl, ?_⟩) ?_ ?_
                       rotate_left
                       ·intro w'
                        go_simp
                        with_reducible rfl
                       rotate_left
                       ·simp only [Act.put, List.setIfInBounds_toArray, List.set_cons_zero, List.set_cons_succ, i64_w, i32_w]
                        rfl
                       refine pure_ (i := 2) (N := some 173) (v := ?_) (a' := ?_) #[true, false, true, false, false, false] rfl rfl (by kernel_rfl) (fun _ _ _ h => h) (Or.inl ⟨by rfl, ?_⟩) ?_ ?_
                       rotate_left
                       ·intro w'
                        go_simp
                        with_reducible rfl
                       rotate_left
                       ·simp only [Act.put, List.setIfInBounds_toArray, List.set_cons_zero, List.set_cons_succ, i64_w, i32_w]
                        rfl
                       refine take_ (i := 1) (N := some 172) (v := ?_) (a' := ?_) #[true, true, true, false, false, false] rfl rfl (by kernel_rfl) (fun _ _ _ h => h) (Or.inl ⟨by rfl, ?_⟩) hHeld ?_ ?_
                       rotate_left
                       ·rintro w' ⟨s0, s1⟩
                        go_simp
                        with_reducible rfl
                       rotate_left
                       ·simp only [Act.put, List.setIfInBounds_toArray, List.set_cons_zero, List.set_cons_succ, i64_w, i32_w]
                        rfl
                       refine one_ (i := 3) (N := some 174) #[true, true, true, true, false, false] rfl rfl (by kernel_rfl) (by decide) (fun K hK => ?_)
                       refine goes_ Try.func31 (by kernel_rfl) rfl #[.pointer (some ⟨gb284, 0, none⟩), .int .i64 32] (by rfl) rfl rfl (by (try simp only [List.map_toArray, List.map_cons, List.map_nil]); first | done | rfl | (simp only [List.length_drop, List.length_take]; rfl)) ?_
                       with_reducible refine (wide_Acc_Fix.calls k3 gb284 x285000_3 x285001_3 x285002_3 32 t285 _ (zb_ BK284) A95.out).mono ?_
                       rintro e w105 ⟨rfl, hb⟩
                       refine ⟨_, rfl, ?_⟩
                       replace HO_284000 := Aside0.mk (Kd.R_below (zr_ HO_284000.out) hb)
                       replace HO_284001 := Aside0.mk (Kd.R_below (zr_ HO_284001.out) hb)
                       replace BK257 := Aside0.mk (zl_ BK257 hb)
                       replace BK258 := Aside0.mk (zl_ BK258 hb)
                       replace BK259 := Aside0.mk (zl_ BK259 hb)
                       replace BK283 := Aside0.mk (zl_ BK283 hb)
                       replace BK284 := Aside0.mk (zl_ BK284 hb)
                       replace HB := Aside0.mk (below_step (zw5_ HB GE257 GE258 GE259 GE283 GE284) hb)
                       (try clear hb)
                       (try clear hb2)
                       (try clear hk)
                       (try clear hi)
                       have p98 : 0 ≤ (x110_2 : Int) := of_decide_eq_true (by first | (with_reducible assumption) | assumption)
                       have q98 : (x110_2 : Int) < ((x284001_2.length : Int) : Int) := of_decide_eq_true (by first | (with_reducible assumption) | assumption)
                       obtain ⟨go98, co98, eo98, gb98, gl98, cl98, HG98⟩ := Kd.R_form HO_284001.out (by omega)
                       (first | cases eo98 | (injection eo98 with ea_ en_ ec_; (first | subst ea_ | (injection ea_ with ea_; subst ea_)); subst ec_; clear en_))
                       have GB98 := Aside0.mk gb98
                       have GG98 := Aside0.mk HG98
                       clear gb98 gl98 HG98
                       obtain ⟨hx98_0, hf98_0⟩ := Kd.R_celln 0 HO_284001.out (x110_2 : Int) p98 q98
                       replace p98 := eq_true p98
                       replace q98 := eq_true q98
                       have HP106 := Kd.R_putn HO_284001.out (x110_2 : Int) t285
                       rw [← Ny286.out] at HP106
                       have HQ106 := Aside0.mk HP106
                       clear HP106
                       refine hK.out _ _ ⟨(blk_cell BK283.out 0).trans rfl, (blk_cell BK283.out 1).trans rfl⟩ (fun hHeld => ?_)
                       clear hK K
                       refine zq_ (some 174) (h := ?_)
                       refine pure_ (i := 4) (N := some 175) (v := ?_) (a' := ?_) #[true, true, true, true, true, false] rfl rfl (by kernel_rfl) (fun _ _ _ h => h) (Or.inl ⟨by rfl, ?_⟩) ?_ ?_
                       rotate_left
                       ·intro w'
                        go_simp
                        with_reducible rfl
                       rotate_left
                       ·simp only [Act.put, List.setIfInBounds_toArray, List.set_cons_zero, List.set_cons_succ, i64_w, i32_w]
                        rfl
                       refine last_ (i := 5) (N := none) #[true, true, true, true, true, true] rfl rfl (by kernel_rfl) (by decide) (fun K hK => ?_)
                       refine skip_ (w1 := ?_) (by rfl) rfl ?_ ?_
                       rotate_left
                       ·go_simp
                        rfl
                       refine hK.out _ _ ?_
                       clear hK K
                       refine done_ (by kernel_rfl) ?_
                       try go_wp2
                       go_roundg k3
                       case measure => have := HJ4.out; have := HK2.out; have := HK3.out; omega
                       case rel => exact ⟨(wrap64 (x110_2 + 1)), (y286), (.slice (some ⟨go98, 0, none⟩) x284001_2.length co98), (by first | rfl | (simp; done) | (simp [*]; done)), H', ⟨by have := HJ4.out; have := HK2.out; have := HK3.out; omega⟩, ⟨zr_ (Kd.R_mono (Kd.R_far (p := ⟨go98, (x110_2 : Int).toNat, none⟩) (Kd.R_types HO_284000.out GG98.out (by decide)) (fun _ hk => hk.2) (.int .i64 t285)) (fun _ hk => trivial))⟩, ⟨zr_ HQ106.out⟩, ⟨by (with_reducible repeat (first | refine blk_drewN ?_ _ | refine blk_drew ?_ | refine blk_alloc ?_ _)); refine blk_far ?_ (by have h_ := Kd.R_ne HO_284001.out BK257.out (by decide); intro e_; exact h_ (by rw [e_]; rfl)) _; (with_reducible repeat (first | refine blk_drewN ?_ _ | refine blk_drew ?_ | refine blk_alloc ?_ _)); exact BK257.out⟩, ⟨by (with_reducible repeat (first | refine blk_drewN ?_ _ | refine blk_drew ?_ | refine blk_alloc ?_ _)); refine blk_far ?_ (by have h_ := Kd.R_ne HO_284001.out BK258.out (by decide); intro e_; exact h_ (by rw [e_]; rfl)) _; (with_reducible repeat (first | refine blk_drewN ?_ _ | refine blk_drew ?_ | refine blk_alloc ?_ _)); exact BK258.out⟩, ⟨by (with_reducible repeat (first | refine blk_drewN ?_ _ | refine blk_drew ?_ | refine blk_alloc ?_ _)); refine blk_far ?_ (by have h_ := Kd.R_ne HO_284001.out BK259.out (by decide); intro e_; exact h_ (by rw [e_]; rfl)) _; (with_reducible repeat (first | refine blk_drewN ?_ _ | refine blk_drew ?_ | refine blk_alloc ?_ _)); exact BK259.out⟩, ⟨by (with_reducible repeat (first | refine blk_drewN ?_ _ | refine blk_drew ?_ | refine blk_alloc ?_ _)); refine blk_far ?_ (by have h_ := Kd.R_ne HO_284001.out BK283.out (by decide); intro e_; exact h_ (by rw [e_]; rfl)) _; (with_reducible repeat (first | refine blk_drewN ?_ _ | refine blk_drew ?_ | refine blk_alloc ?_ _)); exact BK283.out⟩, ⟨by repeat (first | (with_reducible first | exact HB.out | apply below_alloc | apply pw_below_drewN | apply below_drew1 | refine below_set ?_ GB98.out | refine below_set ?_ GE257.out | refine below_set ?_ GE258.out | refine below_set ?_ GE259.out | refine below_set ?_ GE283.out | refine below_set ?_ GE284.out) | exact HB.out)⟩⟩
                      ·rw [if_neg c97] at H
                       exact absurd H (by simp)
                     ·rw [if_neg c96] at H
                      exact absurd H (by simp)
                ·rw [if_neg c70] at H
                 have c70b0 : decide (x110_2 < (t279.length : Int)) = false := decide_eq_false c70
                 clear c70
                 simp only [Option.some.injEq, Prod.mk.injEq] at H
                 obtain ⟨rfl, rfl, rfl⟩ := H
                 have hnb107 := NB283_257.out
                 have hnc107 := NB257_283.out
                 have hnb108 := NB283_258.out
                 have hnc108 := NB258_283.out
                 have hnb109 := NB283_259.out
                 have hnc109 := NB259_283.out
                 have hcz110_0 := zx_ (v := .slice Ao64 t276.length co64) BK283 0
                 have hcz110_1 := zx_ (v := u284001) BK283 1
                 have hfz110_0 := blk_frozen BK283.out 0
                 have hfz110_1 := blk_frozen BK283.out 1
                 have hnb111 := NB259_257.out
                 have hnc111 := NB257_259.out
                 have hnb112 := NB259_258.out
                 have hnc112 := NB258_259.out
                 have hcz113_0 := zx_ (v := .slice none 0 0) BK259 0
                 have hcz113_1 := zx_ (v := .slice none 0 0) BK259 1
                 have hfz113_0 := blk_frozen BK259.out 0
                 have hfz113_1 := blk_frozen BK259.out 1
                 obtain ⟨Ao114, co114, eo114⟩ := Kd.R_slice HO_284001.out
                 subst eo114
                 go_wp2
                 refine bodyPost_ret (results_ct rfl _ _ gb259 25 #[.slice Ao64 t276.length co64, .slice Ao114 x284001_2.length co114] (0, 0) _ rfl (by (with_reducible repeat (first | refine blk_drewN ?_ _ | refine blk_drew ?_ | refine blk_alloc ?_ _)); refine blk_put (cs := #[.slice Ao64 t276.length co64, .slice none 0 0]) ?_ 1 _ rfl; (with_reducible repeat (first | refine blk_drewN ?_ _ | refine blk_drew ?_ | refine blk_alloc ?_ _)); refine blk_put (cs := #[.slice none 0 0, .slice none 0 0]) ?_ 0 _ rfl; (with_reducible repeat (first | refine blk_drewN ?_ _ | refine blk_drew ?_ | refine blk_alloc ?_ _)); exact BK259.out) Try.underlying25 rfl (by kernel_rfl)) rfl ?_
                 exact ⟨_, _, by first | rfl | (simp [errW_none, errW_some] <;> rfl) | (simp [*, errW_none, errW_some] <;> rfl), zr_ (Kd.R_mono (Kd.R_far (p := ⟨gb259, 1, none⟩) (Kd.R_far (p := ⟨gb259, 0, none⟩) (Kd.R_types HO_284000.out BK259.out (by decide)) (fun _ hk => hk.2) (.slice Ao64 t276.length co64)) (fun _ hk => hk.2) (.slice Ao114 x284001_2.length co114)) (fun _ hk => trivial)), zr_ (Kd.R_mono (Kd.R_far (p := ⟨gb259, 1, none⟩) (Kd.R_far (p := ⟨gb259, 0, none⟩) (Kd.R_types HO_284001.out BK259.out (by decide)) (fun _ hk => hk.2) (.slice Ao64 t276.length co64)) (fun _ hk => hk.2) (.slice Ao114 x284001_2.length co114)) (fun _ hk => trivial)), zw4_ HB GE257 GE258 GE259 GE283⟩
             ·rw [if_neg c56] at H
              have c56b0 : (t282 == 0) = false := beq_eq_false_iff_ne.mpr c56
              have c56b1 : (t282 != 0) = true := bne_iff_ne.mpr c56
              simp only [Option.some.injEq, Prod.mk.injEq] at H
              obtain ⟨rfl, rfl, rfl⟩ := H
              try go_wp2
              replace BK257 := Aside0.mk (blk_drew BK257.out)
              replace BK258 := Aside0.mk (blk_drew BK258.out)
              replace BK259 := Aside0.mk (blk_drew BK259.out)
              replace HB := Aside0.mk (below_drew1 HB.out)
              have p264 : 0 ≤ (0 : Int) := (by omega)
              have q264 : 0 < (l1_0.length : Int) := of_decide_eq_true (by first | (with_reducible assumption) | assumption)
              obtain ⟨ad264, e264, hx264_0⟩ := Kd.at_int HR1_0.out 0 p264 q264
              have hw264_0 := hx264_0
              (try rw [show ((0 : Int)).toNat = 0 from rfl] at hw264_0)
              (try rw [show 0 * 1 = 0 from rfl] at hw264_0)
              (try rw [Addr.add_zero'] at hw264_0)
              cases e264
              have qi264 : (0 < l1_0.length) = True := eq_true (by omega)
              (try rw [show ((0 : Int)).toNat = 0 from rfl] at hx264_0)
              (try rw [Addr.add_zero'] at hx264_0)
              replace hx264_0 := (HB.out.cell (World.block_lt_of_cell? w _ hx264_0)).trans hx264_0
              replace p264 := eq_true p264
              replace q264 := eq_true q264
              have p265 : 0 ≤ (0 : Int) := (by omega)
              have q265 : 0 < (l0_0.length : Int) := of_decide_eq_true (by first | (with_reducible assumption) | assumption)
              obtain ⟨ad265, e265, hx265_0⟩ := Kd.at_int HR0_0.out 0 p265 q265
              have hw265_0 := hx265_0
              (try rw [show ((0 : Int)).toNat = 0 from rfl] at hw265_0)
              (try rw [show 0 * 1 = 0 from rfl] at hw265_0)
              (try rw [Addr.add_zero'] at hw265_0)
              cases e265
              have qi265 : (0 < l0_0.length) = True := eq_true (by omega)
              (try rw [show ((0 : Int)).toNat = 0 from rfl] at hx265_0)
              (try rw [Addr.add_zero'] at hx265_0)
              replace hx265_0 := (HB.out.cell (World.block_lt_of_cell? w _ hx265_0)).trans hx265_0
              replace p265 := eq_true p265
              replace q265 := eq_true q265
              have p266 : 0 ≤ (2 : Int) := (by omega)
              have q266 : 2 < (l1_0.length : Int) := of_decide_eq_true (by first | (with_reducible assumption) | assumption)
              obtain ⟨ad266, e266, hx266_0⟩ := Kd.at_int HR1_0.out 2 p266 q266
              have hw266_0 := hx266_0
              (try rw [show ((2 : Int)).toNat = 2 from rfl] at hw266_0)
              (try rw [show 2 * 1 = 2 from rfl] at hw266_0)
              (try simp only [Nat.reduceMul, Nat.reduceEqDiff, Go.Addr.add, ↓reduceIte] at hw266_0)
              obtain rfl : ad264 = ad266 := (by injection e266)
              (try simp only [show (2 : Int).toNat = 2 from rfl, Nat.reduceMul, Nat.reduceEqDiff, Go.Addr.add, ↓reduceIte] at hx266_0)
              have qi266 : (2 < l1_0.length) = True := eq_true (by omega)
              (try rw [show ((2 : Int)).toNat = 2 from rfl] at hx266_0)
              replace hx266_0 := (HB.out.cell (World.block_lt_of_cell? w _ hx266_0)).trans hx266_0
              replace p266 := eq_true p266
              replace q266 := eq_true q266
              have p268 : 0 ≤ (1 : Int) := (by omega)
              have q268 : 1 < (l0_0.length : Int) := of_decide_eq_true (by first | (with_reducible assumption) | assumption)
              obtain ⟨ad268, e268, hx268_0⟩ := Kd.at_int HR0_0.out 1 p268 q268
              have hw268_0 := hx268_0
              (try rw [show ((1 : Int)).toNat = 1 from rfl] at hw268_0)
              (try rw [show 1 * 1 = 1 from rfl] at hw268_0)
              (try simp only [Nat.reduceMul, Nat.reduceEqDiff, Go.Addr.add, ↓reduceIte] at hw268_0)
              obtain rfl : ad265 = ad268 := (by injection e268)
              (try simp only [show (1 : Int).toNat = 1 from rfl, Nat.reduceMul, Nat.reduceEqDiff, Go.Addr.add, ↓reduceIte] at hx268_0)
              have qi268 : (1 < l0_0.length) = True := eq_true (by omega)
              (try rw [show ((1 : Int)).toNat = 1 from rfl] at hx268_0)
              replace hx268_0 := (HB.out.cell (World.block_lt_of_cell? w _ hx268_0)).trans hx268_0
              replace p268 := eq_true p268
              replace q268 := eq_true q268
              refine start_ (n := 36) (S := fun w' => w'.cell? ⟨gb257, 0, none⟩ = some (.slice (some ad265) l0_0.length c0_0) ∧ w'.cell? ⟨gb257, 1, none⟩ = some (.slice A0_1 l0_1.length c0_1) ∧ w'.cell? ⟨gb258, 0, none⟩ = some (.slice (some ad264) l1_0.length c1_0) ∧ w'.cell? ⟨gb258, 1, none⟩ = some (.slice A1_1 l1_1.length c1_1) ∧ w'.cell? ad264 = some (.int .i64 (rd l1_0 0)) ∧ w'.cell? ad265 = some (.int .i64 (rd l0_0 0)) ∧ w'.cell? ⟨ad264.block, ad264.off + 2, none⟩ = some (.int .i64 (rd l1_0 2)) ∧ w'.cell? ⟨ad265.block, ad265.off + 1, none⟩ = some (.int .i64 (rd l0_0 1))) (ds := []) #[false, false, false, false, false, false, false, false, false, false, false, false, false, false, false, false, false, false, false, false, false, false, false, false, false, false, false, false, false, false, false, false, false, false, false, false] (by kernel_rfl) rfl rfl ⟨(blk_cell BK257.out 0).trans rfl, (blk_cell BK257.out 1).trans rfl, (blk_cell BK258.out 0).trans rfl, (blk_cell BK258.out 1).trans rfl, ((HB.out.cell (World.block_lt_of_cell? w _ hw264_0)).trans hw264_0), ((HB.out.cell (World.block_lt_of_cell? w _ hw265_0)).trans hw265_0), ((HB.out.cell (World.block_lt_of_cell? w _ hw266_0)).trans hw266_0), ((HB.out.cell (World.block_lt_of_cell? w _ hw268_0)).trans hw268_0)⟩ (fun hHeld => ?_); refine with_tabW conv_BackIn.tab3 conv_BackIn.bits3 (fun HT_ HW_ => ?_)
              generalize wc.drew = w115 at BK257 BK258 BK259 HB hx264_0 hx265_0 hx266_0 hx268_0 hHeld ⊢
              refine zp_ 0 (some 44) (h := ?_)
              refine zt_ 1 (some 45) (hr := by rintro w' ⟨s0, s1, s2, s3, s4, s5, s6, s7⟩; go_simp; with_reducible rfl) (h := ?_)
              refine zp_ 2 (some 46) (h := ?_)
              refine zp_ 3 (some 47) (h := ?_)
              refine zp_ 4 (some 48) (h := ?_)
              refine zp_ 5 (some 49) (h := ?_)
              refine zt_ 6 (some 50) (hr := by rintro w' ⟨s0, s1, s2, s3, s4, s5, s6, s7⟩; go_simp; with_reducible rfl) (h := ?_)
              refine zp_ 7 (some 51) (h := ?_)
              refine zp_ 8 (some 52) (h := ?_)
              refine zp_ 9 (some 53) (h := ?_)
              refine zp_ 10 (some 54) (h := ?_)
              refine zp_ 11 (some 55) (h := ?_)
              refine zp_ 15 (some 59) (h := ?_)
              refine zt_ 12 (some 56) (hr := by rintro w' ⟨s0, s1, s2, s3, s4, s5, s6, s7⟩; go_simp; with_reducible rfl) (h := ?_)
              refine zp_ 13 (some 57) (h := ?_)
              refine zt_ 14 (some 58) (hr := by rintro w' ⟨s0, s1, s2, s3, s4, s5, s6, s7⟩; go_simp; with_reducible rfl) (h := ?_)
              refine zt_ 16 (some 60) (hr := by rintro w' ⟨s0, s1, s2, s3, s4, s5, s6, s7⟩; go_simp; with_reducible rfl) (h := ?_)
              refine zp_ 17 (some 61) (h := ?_)
              refine zt_ 18 (some 62) (hr := by rintro w' ⟨s0, s1, s2, s3, s4, s5, s6, s7⟩; go_simp; with_reducible rfl) (h := ?_)
              refine zp_ 19 (some 63) (h := ?_)
              refine zp_ 20 (some 64) (h := ?_)
              refine zp_ 21 (some 65) (h := ?_)
              refine zp_ 22 (some 66) (h := ?_)
              refine zp_ 23 (some 67) (h := ?_)
              refine zp_ 27 (some 71) (h := ?_)
              refine zp_ 29 (some 73) (h := ?_)
              refine zt_ 24 (some 68) (hr := by rintro w' ⟨s0, s1, s2, s3, s4, s5, s6, s7⟩; go_simp; with_reducible rfl) (h := ?_)
              refine zp_ 25 (some 69) (h := ?_)
              refine zt_ 26 (some 70) (hr := by rintro w' ⟨s0, s1, s2, s3, s4, s5, s6, s7⟩; go_simp; with_reducible rfl) (h := ?_)
              refine zt_ 30 (some 74) (hr := by rintro w' ⟨s0, s1, s2, s3, s4, s5, s6, s7⟩; go_simp; with_reducible rfl) (h := ?_)
              refine zp_ 31 (some 75) (h := ?_)
              refine zt_ 32 (some 76) (hr := by rintro w' ⟨s0, s1, s2, s3, s4, s5, s6, s7⟩; go_simp; with_reducible rfl) (h := ?_)
              refine one_ (i := 28) (N := some 72) #[true, true, true, true, true, true, true, true, true, true, true, true, true, true, true, true, true, true, true, true, true, true, true, true, true, true, true, true, true, true, true, true, true, false, false, false] rfl rfl (one_of HT_.out (by kernel_rfl)) (by decide) (fun K hK => ?_)
              refine goes_ Try.func28 (by kernel_rfl) rfl #[.int .i64 a3, .int .i64 (rd l1_0 2), .int .i64 a2] (by rfl) rfl rfl (by (try simp only [List.map_toArray, List.map_cons, List.map_nil]); first | done | rfl | (simp only [List.length_drop, List.length_take]; rfl)) ?_
              with_reducible refine (conv_windows.calls a3 (rd l1_0 2) a2 t267 _ A51.out).mono ?_
              rintro e w' ⟨rfl, ⟨nd, rfl⟩⟩
              refine ⟨_, rfl, ?_⟩
              refine hK.out _ _ ⟨(blk_cell BK257.out 0).trans rfl, (blk_cell BK257.out 1).trans rfl, (blk_cell BK258.out 0).trans rfl, (blk_cell BK258.out 1).trans rfl, ((HB.out.cell (World.block_lt_of_cell? w _ hw264_0)).trans hw264_0), ((HB.out.cell (World.block_lt_of_cell? w _ hw265_0)).trans hw265_0), ((HB.out.cell (World.block_lt_of_cell? w _ hw266_0)).trans hw266_0), ((HB.out.cell (World.block_lt_of_cell? w _ hw268_0)).trans hw268_0)⟩ (fun hHeld => ?_)
              clear hK K
              refine zq_ (some 72) (h := ?_)
              refine zp_ 33 (some 77) (h := ?_)
              refine zp_ 34 (some 78) (h := ?_)
              refine zp_ 35 (some 43) (h := ?_)
              refine done_ (done_of HT_.out (by kernel_rfl)) ?_
              try go_wp2
              (try (rw [drewN_self w115]; generalize hq_ : World.drewN w115 _ = w115; have n0_ : Aside0 (w115.heap[gb257]? = some (.cells #[.slice (some ad265) l0_0.length c0_0, .slice A0_1 l0_1.length c0_1] 25 (0, 0))) := ⟨by rw [← hq_]; exact (zb_ BK257)⟩; have n1_ : Aside0 (w115.heap[gb258]? = some (.cells #[.slice (some ad264) l1_0.length c1_0, .slice A1_1 l1_1.length c1_1] 25 (0, 0))) := ⟨by rw [← hq_]; exact (zb_ BK258)⟩; have n2_ : Aside0 (w115.heap[gb259]? = some (.cells #[.slice none 0 0, .slice none 0 0] 25 (0, 0))) := ⟨by rw [← hq_]; exact (zb_ BK259)⟩; have n3_ : Aside0 (Below w.heap.size w w115) := ⟨by rw [← hq_]; exact (zw3_ HB GE257 GE258 GE259)⟩; clear BK257 BK258 BK259 HB hq_; have BK257 := n0_; have BK258 := n1_; have BK259 := n2_; have HB := n3_; clear n0_ n1_ n2_ n3_))
              replace BK257 := Aside0.mk (blk_drew BK257.out)
              replace BK258 := Aside0.mk (blk_drew BK258.out)
              replace BK259 := Aside0.mk (blk_drew BK259.out)
              replace HB := Aside0.mk (below_drew1 HB.out)
              have p269 : 0 ≤ (0 : Int) := (by omega)
              have q269 : 0 < (l1_0.length : Int) := of_decide_eq_true (by first | (with_reducible assumption) | assumption)
              obtain ⟨ad269, e269, hx269_0⟩ := Kd.at_int HR1_0.out 0 p269 q269
              have hw269_0 := hx269_0
              (try rw [show ((0 : Int)).toNat = 0 from rfl] at hw269_0)
              (try rw [show 0 * 1 = 0 from rfl] at hw269_0)
              (try rw [Addr.add_zero'] at hw269_0)
              obtain rfl : ad264 = ad269 := (by injection e269)
              have qi269 : (0 < l1_0.length) = True := eq_true (by omega)
              (try rw [show ((0 : Int)).toNat = 0 from rfl] at hx269_0)
              (try rw [Addr.add_zero'] at hx269_0)
              replace hx269_0 := (HB.out.cell (World.block_lt_of_cell? w _ hx269_0)).trans hx269_0
              replace p269 := eq_true p269
              replace q269 := eq_true q269
              have p270 : 0 ≤ (1 : Int) := (by omega)
              have q270 : 1 < (l1_0.length : Int) := of_decide_eq_true (by first | (with_reducible assumption) | assumption)
              obtain ⟨ad270, e270, hx270_0⟩ := Kd.at_int HR1_0.out 1 p270 q270
              have hw270_0 := hx270_0
              (try rw [show ((1 : Int)).toNat = 1 from rfl] at hw270_0)
              (try rw [show 1 * 1 = 1 from rfl] at hw270_0)
              (try simp only [Nat.reduceMul, Nat.reduceEqDiff, Go.Addr.add, ↓reduceIte] at hw270_0)
              obtain rfl : ad264 = ad270 := (by injection e270)
              (try simp only [show (1 : Int).toNat = 1 from rfl, Nat.reduceMul, Nat.reduceEqDiff, Go.Addr.add, ↓reduceIte] at hx270_0)
              have qi270 : (1 < l1_0.length) = True := eq_true (by omega)
              (try rw [show ((1 : Int)).toNat = 1 from rfl] at hx270_0)
              replace hx270_0 := (HB.out.cell (World.block_lt_of_cell? w _ hx270_0)).trans hx270_0
              replace p270 := eq_true p270
              replace q270 := eq_true q270
              have p271 : 0 ≤ (2 : Int) := (by omega)
              have q271 : 2 < (l1_0.length : Int) := of_decide_eq_true (by first | (with_reducible assumption) | assumption)
              obtain ⟨ad271, e271, hx271_0⟩ := Kd.at_int HR1_0.out 2 p271 q271
              have hw271_0 := hx271_0
              (try rw [show ((2 : Int)).toNat = 2 from rfl] at hw271_0)
              (try rw [show 2 * 1 = 2 from rfl] at hw271_0)
              (try simp only [Nat.reduceMul, Nat.reduceEqDiff, Go.Addr.add, ↓reduceIte] at hw271_0)
              obtain rfl : ad264 = ad271 := (by injection e271)
              (try simp only [show (2 : Int).toNat = 2 from rfl, Nat.reduceMul, Nat.reduceEqDiff, Go.Addr.add, ↓reduceIte] at hx271_0)
              have qi271 : (2 < l1_0.length) = True := eq_true (by omega)
              (try rw [show ((2 : Int)).toNat = 2 from rfl] at hx271_0)
              replace hx271_0 := (HB.out.cell (World.block_lt_of_cell? w _ hx271_0)).trans hx271_0
              replace p271 := eq_true p271
              replace q271 := eq_true q271
              have p272 : 0 ≤ (1 : Int) := (by omega)
              have q272 : 1 < (l0_0.length : Int) := of_decide_eq_true (by first | (with_reducible assumption) | assumption)
              obtain ⟨ad272, e272, hx272_0⟩ := Kd.at_int HR0_0.out 1 p272 q272
              have hw272_0 := hx272_0
              (try rw [show ((1 : Int)).toNat = 1 from rfl] at hw272_0)
              (try rw [show 1 * 1 = 1 from rfl] at hw272_0)
              (try simp only [Nat.reduceMul, Nat.reduceEqDiff, Go.Addr.add, ↓reduceIte] at hw272_0)
              obtain rfl : ad265 = ad272 := (by injection e272)
              (try simp only [show (1 : Int).toNat = 1 from rfl, Nat.reduceMul, Nat.reduceEqDiff, Go.Addr.add, ↓reduceIte] at hx272_0)
              have qi272 : (1 < l0_0.length) = True := eq_true (by omega)
              (try rw [show ((1 : Int)).toNat = 1 from rfl] at hx272_0)
              replace hx272_0 := (HB.out.cell (World.block_lt_of_cell? w _ hx272_0)).trans hx272_0
              replace p272 := eq_true p272
              replace q272 := eq_true q272
              refine start_ (n := 20) (S := fun w' => w'.cell? ⟨gb258, 0, none⟩ = some (.slice (some ad264) l1_0.length c1_0) ∧ w'.cell? ⟨gb258, 1, none⟩ = some (.slice A1_1 l1_1.length c1_1) ∧ w'.cell? ⟨gb257, 0, none⟩ = some (.slice (some ad265) l0_0.length c0_0) ∧ w'.cell? ⟨gb257, 1, none⟩ = some (.slice A0_1 l0_1.length c0_1) ∧ w'.cell? ad264 = some (.int .i64 (rd l1_0 0)) ∧ w'.cell? ⟨ad264.block, ad264.off + 1, none⟩ = some (.int .i64 (rd l1_0 1)) ∧ w'.cell? ⟨ad264.block, ad264.off + 2, none⟩ = some (.int .i64 (rd l1_0 2)) ∧ w'.cell? ⟨ad265.block, ad265.off + 1, none⟩ = some (.int .i64 (rd l0_0 1))) (ds := []) #[false, false, false, false, false, false, false, false, false, false, false, false, false, false, false, false, false, false, false, false] (by kernel_rfl) rfl rfl ⟨(blk_cell BK258.out 0).trans rfl, (blk_cell BK258.out 1).trans rfl, (blk_cell BK257.out 0).trans rfl, (blk_cell BK257.out 1).trans rfl, ((HB.out.cell (World.block_lt_of_cell? w _ hw269_0)).trans hw269_0), ((HB.out.cell (World.block_lt_of_cell? w _ hw270_0)).trans hw270_0), ((HB.out.cell (World.block_lt_of_cell? w _ hw271_0)).trans hw271_0), ((HB.out.cell (World.block_lt_of_cell? w _ hw272_0)).trans hw272_0)⟩ (fun hHeld => ?_); refine with_tabW conv_BackIn.tab5 conv_BackIn.bits5 (fun HT_ HW_ => ?_)
              generalize w115.drew = w116 at BK257 BK258 BK259 HB hx269_0 hx270_0 hx271_0 hx272_0 hHeld ⊢
              refine zp_ 0 (some 80) (h := ?_)
              refine zp_ 4 (some 84) (h := ?_)
              refine zp_ 8 (some 88) (h := ?_)
              refine zp_ 12 (some 92) (h := ?_)
              refine zt_ 1 (some 81) (hr := by rintro w' ⟨s0, s1, s2, s3, s4, s5, s6, s7⟩; go_simp; with_reducible rfl) (h := ?_)
              refine zp_ 2 (some 82) (h := ?_)
              refine zt_ 3 (some 83) (hr := by rintro w' ⟨s0, s1, s2, s3, s4, s5, s6, s7⟩; go_simp; with_reducible rfl) (h := ?_)
              refine zp_ 16 (some 10) (h := ?_)
              refine zt_ 5 (some 85) (hr := by rintro w' ⟨s0, s1, s2, s3, s4, s5, s6, s7⟩; go_simp; with_reducible rfl) (h := ?_)
              refine zp_ 6 (some 86) (h := ?_)
              refine zt_ 7 (some 87) (hr := by rintro w' ⟨s0, s1, s2, s3, s4, s5, s6, s7⟩; go_simp; with_reducible rfl) (h := ?_)
              refine zp_ 17 (some 11) (h := ?_)
              refine zt_ 9 (some 89) (hr := by rintro w' ⟨s0, s1, s2, s3, s4, s5, s6, s7⟩; go_simp; with_reducible rfl) (h := ?_)
              refine zp_ 10 (some 90) (h := ?_)
              refine zt_ 11 (some 91) (hr := by rintro w' ⟨s0, s1, s2, s3, s4, s5, s6, s7⟩; go_simp; with_reducible rfl) (h := ?_)
              refine zp_ 18 (some 12) (h := ?_)
              refine zt_ 13 (some 93) (hr := by rintro w' ⟨s0, s1, s2, s3, s4, s5, s6, s7⟩; go_simp; with_reducible rfl) (h := ?_)
              refine zp_ 14 (some 94) (h := ?_)
              refine zt_ 15 (some 95) (hr := by rintro w' ⟨s0, s1, s2, s3, s4, s5, s6, s7⟩; go_simp; with_reducible rfl) (h := ?_)
              refine zp_ 19 (some 13) (h := ?_)
              refine done_ (done_of HT_.out (by kernel_rfl)) ?_
              try go_wp2_with (first | ((with_reducible refine gate_dst (N := 99) rfl ?_); (try (refine gate_guard (by rfl) ?_; dsimp only)); refine Kd.R_lit (Kd.int .i64) _ 3 ?hg (N := 99) ?hd (xs := ([rd l1_0 1, a3] : List Int)) (inner := [.int .i64 (rd l1_0 1), .int .i64 a3]) (ok := fun _ => True) (okp := fun _ => True) ?hr ?hp (fun _ hk => hk) trivial (Below.refl _ _) (Nat.le_refl _) (by simp) ?_; (case hd => rfl); (case hg => rfl); (case hr => first | (go_simp; done) | (go_simp; rfl)); (case hp => exact (Reps.one (show Kd.M (Kd.int .i64) _ _ _ (rd l1_0 1) [.int .i64 (rd l1_0 1)] from rfl) (Reps.one (show Kd.M (Kd.int .i64) _ _ _ a3 [.int .i64 a3] from rfl) (Reps.none _ _)))); intro v274 w117 ho118 hb hg_ hnew_; clear hg_ hnew_; (first | rw [← Ny273.out] at ho118 | (simp only [Int.reduceToNat] at ho118; rw [← Ny273.out] at ho118)); have HO275 := Aside0.mk (Kd.R_lower ho118 (below_size (zw3_ HB GE257 GE258 GE259))); replace BK257 := Aside0.mk (zl_ BK257 hb); replace BK258 := Aside0.mk (zl_ BK258 hb); replace BK259 := Aside0.mk (zl_ BK259 hb); replace HB := Aside0.mk (below_step (zw3_ HB GE257 GE258 GE259) hb); clear hb ho118; obtain ⟨Ao119, co119, eo119⟩ := Kd.R_slice HO275.out; subst eo119) | ((with_reducible refine gate_callee (f := 29) rfl ?_); refine zg_ (some 100) Try.func29 #[.slice Ao119 y273.length co119] (h := ?_); (with_reducible refine (conv_of.calls kj4 _ _ y273 t276 t279 t282 _ ?side1 ?side2 A55.out).mono ?_); (case side1 => exact zk_ ((Kd.R_reads' HO275.out).2.2)); (case side2 => exact (Kd.R_reads' HO275.out).2.1); rintro e w120 ⟨v277, v280, rfl, ho0, ho1, hb⟩; refine ⟨_, rfl, ?_⟩; have HO278 := Aside0.mk (Kd.R_lower (Kd.R_new' ho0 (Kd.R_lt (zr_ HO275.out))) (below_size (zw3_ HB GE257 GE258 GE259))); replace HO275 := Aside0.mk (Kd.R_elder' (zr_ HO275.out) (Kd.R_base ho0) hb); have HO281 := Aside0.mk (Kd.R_lower ho1 (below_size (zw3_ HB GE257 GE258 GE259))); replace BK257 := Aside0.mk (zl_ BK257 hb); replace BK258 := Aside0.mk (zl_ BK258 hb); replace BK259 := Aside0.mk (zl_ BK259 hb); replace HB := Aside0.mk (below_step (zw3_ HB GE257 GE258 GE259) hb); (try clear hb); (try clear ho0); (try clear ho1)) | ((with_reducible refine gate_dst (N := 14) rfl ?_); (try (refine gate_guard (by rfl) ?_; dsimp only)); refine box_event ?hg (N := 14) ?hd (cs := #[.slice none 0 0, .slice none 0 0]) (t := 25) ?hr ?_; (case hd => rfl); (case hg => rfl); (case hr => first | (go_simp; done) | (go_simp; rfl)); intro gb283 hg w121 hbox hb; replace HO275 := Aside0.mk (Kd.R_below (zr_ HO275.out) hb); replace HO278 := Aside0.mk (Kd.R_below (zr_ HO278.out) hb); replace HO281 := Aside0.mk (Kd.R_below (zr_ HO281.out) hb); have BK283 := Aside0.mk (hbox); have GW283 := Aside0.mk (zs_ hg (zw3_ HB GE257 GE258 GE259)); have GE283 := Aside0.mk (zs_ hg (zw3_ HB GE257 GE258 GE259)); replace HB := Aside0.mk (below_step (zw3_ HB GE257 GE258 GE259) hb); have NB257_283 := Aside0.mk (zn_ hg BK257); have NB283_257 := Aside0.mk (zm_ hg BK257); replace BK257 := Aside0.mk (zl_ BK257 hb); have NB258_283 := Aside0.mk (zn_ hg BK258); have NB283_258 := Aside0.mk (zm_ hg BK258); replace BK258 := Aside0.mk (zl_ BK258 hb); have NB259_283 := Aside0.mk (zn_ hg BK259); have NB283_259 := Aside0.mk (zm_ hg BK259); replace BK259 := Aside0.mk (zl_ BK259 hb); clear hb hbox hg; obtain ⟨Ao122, co122, eo122⟩ := Kd.R_slice HO278.out; subst eo122; have hnb123 := NB283_257.out; have hnc123 := NB257_283.out; have hnb124 := NB283_258.out; have hnc124 := NB258_283.out; have hnb125 := NB283_259.out; have hnc125 := NB259_283.out; have hcz126_0 := zx_ (v := .slice none 0 0) BK283 0; have hcz126_1 := zx_ (v := .slice none 0 0) BK283 1; have hfz126_0 := blk_frozen BK283.out 0; have hfz126_1 := blk_frozen BK283.out 1; obtain ⟨Ao127, co127, eo127⟩ := Kd.R_slice HO281.out; subst eo127; have hnb128 := NB259_257.out; have hnc128 := NB257_259.out; have hnb129 := NB259_258.out; have hnc129 := NB258_259.out; have hcz130_0 := zx_ (v := .slice none 0 0) BK259 0; have hcz130_1 := zx_ (v := .slice none 0 0) BK259 1; have hfz130_0 := blk_frozen BK259.out 0; have hfz130_1 := blk_frozen BK259.out 1))
              refine bodyPost_ret (results_ct rfl _ _ gb259 25 #[.slice none 0 0, .slice none 0 0] (0, 0) _ rfl (by (with_reducible repeat (first | refine blk_drewN ?_ _ | refine blk_drew ?_ | refine blk_alloc ?_ _)); refine blk_put (cs := #[.slice none 0 0, .slice none 0 0]) ?_ 1 _ rfl; (with_reducible repeat (first | refine blk_drewN ?_ _ | refine blk_drew ?_ | refine blk_alloc ?_ _)); refine blk_put (cs := #[.slice none 0 0, .slice none 0 0]) ?_ 0 _ rfl; (with_reducible repeat (first | refine blk_drewN ?_ _ | refine blk_drew ?_ | refine blk_alloc ?_ _)); refine blk_far ?_ NB259_283.out _; (with_reducible repeat (first | refine blk_drewN ?_ _ | refine blk_drew ?_ | refine blk_alloc ?_ _)); refine blk_far ?_ NB259_283.out _; (with_reducible repeat (first | refine blk_drewN ?_ _ | refine blk_drew ?_ | refine blk_alloc ?_ _)); exact BK259.out) Try.underlying25 rfl (by kernel_rfl)) rfl ?_
              exact ⟨_, _, by first | rfl | (simp [errW_none, errW_some] <;> rfl) | (simp [*, errW_none, errW_some] <;> rfl), by first | exact Kd.R_nil _ _ _ _ _ | exact Kd.N_nil _ _ _ _ _ | exact Kd.V_nil _ _ _ _ _ | exact Kd.Q_nil _ _ _ _ _ | exact Kd.S_nil _ _ _ _ _, by first | exact Kd.R_nil _ _ _ _ _ | exact Kd.N_nil _ _ _ _ _ | exact Kd.V_nil _ _ _ _ _ | exact Kd.Q_nil _ _ _ _ _ | exact Kd.S_nil _ _ _ _ _, zw4_ HB GE257 GE258 GE259 GE283⟩
            ·rw [if_neg c54] at H
             exact absurd H (by simp)
           ·rw [if_neg c53] at H
            have c53b0 : (t267 == (rd l0_0 1)) = false := beq_eq_false_iff_ne.mpr c53
            have c53b1 : (t267 != (rd l0_0 1)) = true := bne_iff_ne.mpr c53
            simp only [Option.some.injEq, Prod.mk.injEq] at H
            obtain ⟨rfl, rfl, rfl⟩ := H
            try go_wp2
            replace BK257 := Aside0.mk (blk_drew BK257.out)
            replace BK258 := Aside0.mk (blk_drew BK258.out)
            replace BK259 := Aside0.mk (blk_drew BK259.out)
            replace HB := Aside0.mk (below_drew1 HB.out)
            have p264 : 0 ≤ (0 : Int) := (by omega)
            have q264 : 0 < (l1_0.length : Int) := of_decide_eq_true (by first | (with_reducible assumption) | assumption)
            obtain ⟨ad264, e264, hx264_0⟩ := Kd.at_int HR1_0.out 0 p264 q264
            have hw264_0 := hx264_0
            (try rw [show ((0 : Int)).toNat = 0 from rfl] at hw264_0)
            (try rw [show 0 * 1 = 0 from rfl] at hw264_0)
            (try rw [Addr.add_zero'] at hw264_0)
            cases e264
            have qi264 : (0 < l1_0.length) = True := eq_true (by omega)
            (try rw [show ((0 : Int)).toNat = 0 from rfl] at hx264_0)
            (try rw [Addr.add_zero'] at hx264_0)
            replace hx264_0 := (HB.out.cell (World.block_lt_of_cell? w _ hx264_0)).trans hx264_0
            replace p264 := eq_true p264
            replace q264 := eq_true q264
            have p265 : 0 ≤ (0 : Int) := (by omega)
            have q265 : 0 < (l0_0.length : Int) := of_decide_eq_true (by first | (with_reducible assumption) | assumption)
            obtain ⟨ad265, e265, hx265_0⟩ := Kd.at_int HR0_0.out 0 p265 q265
            have hw265_0 := hx265_0
            (try rw [show ((0 : Int)).toNat = 0 from rfl] at hw265_0)
            (try rw [show 0 * 1 = 0 from rfl] at hw265_0)
            (try rw [Addr.add_zero'] at hw265_0)
            cases e265
            have qi265 : (0 < l0_0.length) = True := eq_true (by omega)
            (try rw [show ((0 : Int)).toNat = 0 from rfl] at hx265_0)
            (try rw [Addr.add_zero'] at hx265_0)
            replace hx265_0 := (HB.out.cell (World.block_lt_of_cell? w _ hx265_0)).trans hx265_0
            replace p265 := eq_true p265
            replace q265 := eq_true q265
            have p266 : 0 ≤ (2 : Int) := (by omega)
            have q266 : 2 < (l1_0.length : Int) := of_decide_eq_true (by first | (with_reducible assumption) | assumption)
            obtain ⟨ad266, e266, hx266_0⟩ := Kd.at_int HR1_0.out 2 p266 q266
            have hw266_0 := hx266_0
            (try rw [show ((2 : Int)).toNat = 2 from rfl] at hw266_0)
            (try rw [show 2 * 1 = 2 from rfl] at hw266_0)
            (try simp only [Nat.reduceMul, Nat.reduceEqDiff, Go.Addr.add, ↓reduceIte] at hw266_0)
            obtain rfl : ad264 = ad266 := (by injection e266)
            (try simp only [show (2 : Int).toNat = 2 from rfl, Nat.reduceMul, Nat.reduceEqDiff, Go.Addr.add, ↓reduceIte] at hx266_0)
            have qi266 : (2 < l1_0.length) = True := eq_true (by omega)
            (try rw [show ((2 : Int)).toNat = 2 from rfl] at hx266_0)
            replace hx266_0 := (HB.out.cell (World.block_lt_of_cell? w _ hx266_0)).trans hx266_0
            replace p266 := eq_true p266
            replace q266 := eq_true q266
            have p268 : 0 ≤ (1 : Int) := (by omega)
            have q268 : 1 < (l0_0.length : Int) := of_decide_eq_true (by first | (with_reducible assumption) | assumption)
            obtain ⟨ad268, e268, hx268_0⟩ := Kd.at_int HR0_0.out 1 p268 q268
            have hw268_0 := hx268_0
            (try rw [show ((1 : Int)).toNat = 1 from rfl] at hw268_0)
            (try rw [show 1 * 1 = 1 from rfl] at hw268_0)
            (try simp only [Nat.reduceMul, Nat.reduceEqDiff, Go.Addr.add, ↓reduceIte] at hw268_0)
            obtain rfl : ad265 = ad268 := (by injection e268)
            (try simp only [show (1 : Int).toNat = 1 from rfl, Nat.reduceMul, Nat.reduceEqDiff, Go.Addr.add, ↓reduceIte] at hx268_0)
            have qi268 : (1 < l0_0.length) = True := eq_true (by omega)
            (try rw [show ((1 : Int)).toNat = 1 from rfl] at hx268_0)
            replace hx268_0 := (HB.out.cell (World.block_lt_of_cell? w _ hx268_0)).trans hx268_0
            replace p268 := eq_true p268
            replace q268 := eq_true q268
            refine start_ (n := 36) (S := fun w' => w'.cell? ⟨gb257, 0, none⟩ = some (.slice (some ad265) l0_0.length c0_0) ∧ w'.cell? ⟨gb257, 1, none⟩ = some (.slice A0_1 l0_1.length c0_1) ∧ w'.cell? ⟨gb258, 0, none⟩ = some (.slice (some ad264) l1_0.length c1_0) ∧ w'.cell? ⟨gb258, 1, none⟩ = some (.slice A1_1 l1_1.length c1_1) ∧ w'.cell? ad264 = some (.int .i64 (rd l1_0 0)) ∧ w'.cell? ad265 = some (.int .i64 (rd l0_0 0)) ∧ w'.cell? ⟨ad264.block, ad264.off + 2, none⟩ = some (.int .i64 (rd l1_0 2)) ∧ w'.cell? ⟨ad265.block, ad265.off + 1, none⟩ = some (.int .i64 (rd l0_0 1))) (ds := []) #[false, false, false, false, false, false, false, false, false, false, false, false, false, false, false, false, false, false, false, false, false, false, false, false, false, false, false, false, false, false, false, false, false, false, false, false] (by kernel_rfl) rfl rfl ⟨(blk_cell BK257.out 0).trans rfl, (blk_cell BK257.out 1).trans rfl, (blk_cell BK258.out 0).trans rfl, (blk_cell BK258.out 1).trans rfl, ((HB.out.cell (World.block_lt_of_cell? w _ hw264_0)).trans hw264_0), ((HB.out.cell (World.block_lt_of_cell? w _ hw265_0)).trans hw265_0), ((HB.out.cell (World.block_lt_of_cell? w _ hw266_0)).trans hw266_0), ((HB.out.cell (World.block_lt_of_cell? w _ hw268_0)).trans hw268_0)⟩ (fun hHeld => ?_); refine with_tabW conv_BackIn.tab3 conv_BackIn.bits3 (fun HT_ HW_ => ?_)
            generalize wc.drew = w131 at BK257 BK258 BK259 HB hx264_0 hx265_0 hx266_0 hx268_0 hHeld ⊢
            refine zp_ 0 (some 44) (h := ?_)
            refine zt_ 1 (some 45) (hr := by rintro w' ⟨s0, s1, s2, s3, s4, s5, s6, s7⟩; go_simp; with_reducible rfl) (h := ?_)
            refine zp_ 2 (some 46) (h := ?_)
            refine zp_ 3 (some 47) (h := ?_)
            refine zp_ 4 (some 48) (h := ?_)
            refine zp_ 5 (some 49) (h := ?_)
            refine zt_ 6 (some 50) (hr := by rintro w' ⟨s0, s1, s2, s3, s4, s5, s6, s7⟩; go_simp; with_reducible rfl) (h := ?_)
            refine zp_ 7 (some 51) (h := ?_)
            refine zp_ 8 (some 52) (h := ?_)
            refine zp_ 9 (some 53) (h := ?_)
            refine zp_ 10 (some 54) (h := ?_)
            refine zp_ 11 (some 55) (h := ?_)
            refine zp_ 15 (some 59) (h := ?_)
            refine zt_ 12 (some 56) (hr := by rintro w' ⟨s0, s1, s2, s3, s4, s5, s6, s7⟩; go_simp; with_reducible rfl) (h := ?_)
            refine zp_ 13 (some 57) (h := ?_)
            refine zt_ 14 (some 58) (hr := by rintro w' ⟨s0, s1, s2, s3, s4, s5, s6, s7⟩; go_simp; with_reducible rfl) (h := ?_)
            refine zt_ 16 (some 60) (hr := by rintro w' ⟨s0, s1, s2, s3, s4, s5, s6, s7⟩; go_simp; with_reducible rfl) (h := ?_)
            refine zp_ 17 (some 61) (h := ?_)
            refine zt_ 18 (some 62) (hr := by rintro w' ⟨s0, s1, s2, s3, s4, s5, s6, s7⟩; go_simp; with_reducible rfl) (h := ?_)
            refine zp_ 19 (some 63) (h := ?_)
            refine zp_ 20 (some 64) (h := ?_)
            refine zp_ 21 (some 65) (h := ?_)
            refine zp_ 22 (some 66) (h := ?_)
            refine zp_ 23 (some 67) (h := ?_)
            refine zp_ 27 (some 71) (h := ?_)
            refine zp_ 29 (some 73) (h := ?_)
            refine zt_ 24 (some 68) (hr := by rintro w' ⟨s0, s1, s2, s3, s4, s5, s6, s7⟩; go_simp; with_reducible rfl) (h := ?_)
            refine zp_ 25 (some 69) (h := ?_)
            refine zt_ 26 (some 70) (hr := by rintro w' ⟨s0, s1, s2, s3, s4, s5, s6, s7⟩; go_simp; with_reducible rfl) (h := ?_)
            refine zt_ 30 (some 74) (hr := by rintro w' ⟨s0, s1, s2, s3, s4, s5, s6, s7⟩; go_simp; with_reducible rfl) (h := ?_)
            refine zp_ 31 (some 75) (h := ?_)
            refine zt_ 32 (some 76) (hr := by rintro w' ⟨s0, s1, s2, s3, s4, s5, s6, s7⟩; go_simp; with_reducible rfl) (h := ?_)
            refine one_ (i := 28) (N := some 72) #[true, true, true, true, true, true, true, true, true, true, true, true, true, true, true, true, true, true, true, true, true, true, true, true, true, true, true, true, true, true, true, true, true, false, false, false] rfl rfl (one_of HT_.out (by kernel_rfl)) (by decide) (fun K hK => ?_)
            refine goes_ Try.func28 (by kernel_rfl) rfl #[.int .i64 a3, .int .i64 (rd l1_0 2), .int .i64 a2] (by rfl) rfl rfl (by (try simp only [List.map_toArray, List.map_cons, List.map_nil]); first | done | rfl | (simp only [List.length_drop, List.length_take]; rfl)) ?_
            with_reducible refine (conv_windows.calls a3 (rd l1_0 2) a2 t267 _ A51.out).mono ?_
            rintro e w' ⟨rfl, ⟨nd, rfl⟩⟩
            refine ⟨_, rfl, ?_⟩
            refine hK.out _ _ ⟨(blk_cell BK257.out 0).trans rfl, (blk_cell BK257.out 1).trans rfl, (blk_cell BK258.out 0).trans rfl, (blk_cell BK258.out 1).trans rfl, ((HB.out.cell (World.block_lt_of_cell? w _ hw264_0)).trans hw264_0), ((HB.out.cell (World.block_lt_of_cell? w _ hw265_0)).trans hw265_0), ((HB.out.cell (World.block_lt_of_cell? w _ hw266_0)).trans hw266_0), ((HB.out.cell (World.block_lt_of_cell? w _ hw268_0)).trans hw268_0)⟩ (fun hHeld => ?_)
            clear hK K
            refine zq_ (some 72) (h := ?_)
            refine zp_ 33 (some 77) (h := ?_)
            refine zp_ 34 (some 78) (h := ?_)
            refine zp_ 35 (some 43) (h := ?_)
            refine done_ (done_of HT_.out (by kernel_rfl)) ?_
            have hnb132 := NB259_257.out
            have hnc132 := NB257_259.out
            have hnb133 := NB259_258.out
            have hnc133 := NB258_259.out
            have hcz134_0 := zx_ (v := .slice none 0 0) BK259 0
            have hcz134_1 := zx_ (v := .slice none 0 0) BK259 1
            have hfz134_0 := blk_frozen BK259.out 0
            have hfz134_1 := blk_frozen BK259.out 1
            try go_wp2
            refine bodyPost_ret (results_ct rfl _ _ gb259 25 #[.slice none 0 0, .slice none 0 0] (0, 0) _ rfl (by (with_reducible repeat (first | refine blk_drewN ?_ _ | refine blk_drew ?_ | refine blk_alloc ?_ _)); refine blk_put (cs := #[.slice none 0 0, .slice none 0 0]) ?_ 1 _ rfl; (with_reducible repeat (first | refine blk_drewN ?_ _ | refine blk_drew ?_ | refine blk_alloc ?_ _)); refine blk_put (cs := #[.slice none 0 0, .slice none 0 0]) ?_ 0 _ rfl; (with_reducible repeat (first | refine blk_drewN ?_ _ | refine blk_drew ?_ | refine blk_alloc ?_ _)); exact BK259.out) Try.underlying25 rfl (by kernel_rfl)) rfl ?_
            exact ⟨_, _, by first | rfl | (simp [errW_none, errW_some] <;> rfl) | (simp [*, errW_none, errW_some] <;> rfl), by first | exact Kd.R_nil _ _ _ _ _ | exact Kd.N_nil _ _ _ _ _ | exact Kd.V_nil _ _ _ _ _ | exact Kd.Q_nil _ _ _ _ _ | exact Kd.S_nil _ _ _ _ _, by first | exact Kd.R_nil _ _ _ _ _ | exact Kd.N_nil _ _ _ _ _ | exact Kd.V_nil _ _ _ _ _ | exact Kd.Q_nil _ _ _ _ _ | exact Kd.S_nil _ _ _ _ _, zw3_ HB GE257 GE258 GE259⟩
          ·rw [if_neg c52] at H
           exact absurd H (by simp)
         ·rw [if_neg c50] at H
          exact absurd H (by simp)
        ·rw [if_neg c49] at H
         have c49b0 : ((rd l1_0 0) == (rd l0_0 0)) = false := beq_eq_false_iff_ne.mpr c49
         have c49b1 : ((rd l1_0 0) != (rd l0_0 0)) = true := bne_iff_ne.mpr c49
         simp only [Option.some.injEq, Prod.mk.injEq] at H
         obtain ⟨rfl, rfl, rfl⟩ := H
         try go_wp2
         replace BK257 := Aside0.mk (blk_drew BK257.out)
         replace BK258 := Aside0.mk (blk_drew BK258.out)
         replace BK259 := Aside0.mk (blk_drew BK259.out)
         replace HB := Aside0.mk (below_drew1 HB.out)
         have p264 : 0 ≤ (0 : Int) := (by omega)
         have q264 : 0 < (l1_0.length : Int) := of_decide_eq_true (by first | (with_reducible assumption) | assumption)
         obtain ⟨ad264, e264, hx264_0⟩ := Kd.at_int HR1_0.out 0 p264 q264
         have hw264_0 := hx264_0
         (try rw [show ((0 : Int)).toNat = 0 from rfl] at hw264_0)
         (try rw [show 0 * 1 = 0 from rfl] at hw264_0)
         (try rw [Addr.add_zero'] at hw264_0)
         cases e264
         have qi264 : (0 < l1_0.length) = True := eq_true (by omega)
         (try rw [show ((0 : Int)).toNat = 0 from rfl] at hx264_0)
         (try rw [Addr.add_zero'] at hx264_0)
         replace hx264_0 := (HB.out.cell (World.block_lt_of_cell? w _ hx264_0)).trans hx264_0
         replace p264 := eq_true p264
         replace q264 := eq_true q264
         have p265 : 0 ≤ (0 : Int) := (by omega)
         have q265 : 0 < (l0_0.length : Int) := of_decide_eq_true (by first | (with_reducible assumption) | assumption)
         obtain ⟨ad265, e265, hx265_0⟩ := Kd.at_int HR0_0.out 0 p265 q265
         have hw265_0 := hx265_0
         (try rw [show ((0 : Int)).toNat = 0 from rfl] at hw265_0)
         (try rw [show 0 * 1 = 0 from rfl] at hw265_0)
         (try rw [Addr.add_zero'] at hw265_0)
         cases e265
         have qi265 : (0 < l0_0.length) = True := eq_true (by omega)
         (try rw [show ((0 : Int)).toNat = 0 from rfl] at hx265_0)
         (try rw [Addr.add_zero'] at hx265_0)
         replace hx265_0 := (HB.out.cell (World.block_lt_of_cell? w _ hx265_0)).trans hx265_0
         replace p265 := eq_true p265
         replace q265 := eq_true q265
         refine start_ (n := 36) (S := fun w' => w'.cell? ⟨gb257, 0, none⟩ = some (.slice (some ad265) l0_0.length c0_0) ∧ w'.cell? ⟨gb257, 1, none⟩ = some (.slice A0_1 l0_1.length c0_1) ∧ w'.cell? ⟨gb258, 0, none⟩ = some (.slice (some ad264) l1_0.length c1_0) ∧ w'.cell? ⟨gb258, 1, none⟩ = some (.slice A1_1 l1_1.length c1_1) ∧ w'.cell? ad264 = some (.int .i64 (rd l1_0 0)) ∧ w'.cell? ad265 = some (.int .i64 (rd l0_0 0))) (ds := []) #[false, false, false, false, false, false, false, false, false, false, false, false, false, false, false, false, false, false, false, false, false, false, false, false, false, false, false, false, false, false, false, false, false, false, false, false] (by kernel_rfl) rfl rfl ⟨(blk_cell BK257.out 0).trans rfl, (blk_cell BK257.out 1).trans rfl, (blk_cell BK258.out 0).trans rfl, (blk_cell BK258.out 1).trans rfl, ((HB.out.cell (World.block_lt_of_cell? w _ hw264_0)).trans hw264_0), ((HB.out.cell (World.block_lt_of_cell? w _ hw265_0)).trans hw265_0)⟩ (fun hHeld => ?_); refine with_tabW conv_BackIn.tab3 conv_BackIn.bits3 (fun HT_ HW_ => ?_)
         generalize wc.drew = w135 at BK257 BK258 BK259 HB hx264_0 hx265_0 hHeld ⊢
         refine zp_ 0 (some 44) (h := ?_)
         refine zt_ 1 (some 45) (hr := by rintro w' ⟨s0, s1, s2, s3, s4, s5⟩; go_simp; with_reducible rfl) (h := ?_)
         refine zp_ 2 (some 46) (h := ?_)
         refine zp_ 3 (some 47) (h := ?_)
         refine zp_ 4 (some 48) (h := ?_)
         refine zp_ 5 (some 49) (h := ?_)
         refine zt_ 6 (some 50) (hr := by rintro w' ⟨s0, s1, s2, s3, s4, s5⟩; go_simp; with_reducible rfl) (h := ?_)
         refine zp_ 7 (some 51) (h := ?_)
         refine zp_ 8 (some 52) (h := ?_)
         refine zp_ 9 (some 53) (h := ?_)
         refine zp_ 10 (some 54) (h := ?_)
         refine zp_ 11 (some 55) (h := ?_)
         refine zp_ 15 (some 59) (h := ?_)
         refine zt_ 12 (some 56) (hr := by rintro w' ⟨s0, s1, s2, s3, s4, s5⟩; go_simp; with_reducible rfl) (h := ?_)
         refine zp_ 13 (some 57) (h := ?_)
         refine zt_ 14 (some 58) (hr := by rintro w' ⟨s0, s1, s2, s3, s4, s5⟩; go_simp; with_reducible rfl) (h := ?_)
         refine zt_ 16 (some 60) (hr := by rintro w' ⟨s0, s1, s2, s3, s4, s5⟩; go_simp; with_reducible rfl) (h := ?_)
         refine zp_ 17 (some 61) (h := ?_)
         refine zt_ 18 (some 62) (hr := by rintro w' ⟨s0, s1, s2, s3, s4, s5⟩; go_simp; with_reducible rfl) (h := ?_)
         refine zp_ 19 (some 63) (h := ?_)
         refine zp_ 20 (some 64) (h := ?_)
         refine zp_ 21 (some 65) (h := ?_)
         refine zu_ 22 (some 66) (h := ?_)
         refine zu_ 23 (some 67) (h := ?_)
         refine zu_ 24 (some 68) (h := ?_)
         refine zu_ 25 (some 69) (h := ?_)
         refine zu_ 26 (some 70) (h := ?_)
         refine zu_ 27 (some 71) (h := ?_)
         refine zu_ 28 (some 72) (h := ?_)
         refine zu_ 29 (some 73) (h := ?_)
         refine zu_ 30 (some 74) (h := ?_)
         refine zu_ 31 (some 75) (h := ?_)
         refine zu_ 32 (some 76) (h := ?_)
         refine zu_ 33 (some 77) (h := ?_)
         refine zp_ 34 (some 78) (h := ?_)
         refine zp_ 35 (some 43) (h := ?_)
         refine done_ (done_of HT_.out (by kernel_rfl)) ?_
         have hnb136 := NB259_257.out
         have hnc136 := NB257_259.out
         have hnb137 := NB259_258.out
         have hnc137 := NB258_259.out
         have hcz138_0 := zx_ (v := .slice none 0 0) BK259 0
         have hcz138_1 := zx_ (v := .slice none 0 0) BK259 1
         have hfz138_0 := blk_frozen BK259.out 0
         have hfz138_1 := blk_frozen BK259.out 1
         try go_wp2
         refine bodyPost_ret (results_ct rfl _ _ gb259 25 #[.slice none 0 0, .slice none 0 0] (0, 0) _ rfl (by (with_reducible repeat (first | refine blk_drewN ?_ _ | refine blk_drew ?_ | refine blk_alloc ?_ _)); refine blk_put (cs := #[.slice none 0 0, .slice none 0 0]) ?_ 1 _ rfl; (with_reducible repeat (first | refine blk_drewN ?_ _ | refine blk_drew ?_ | refine blk_alloc ?_ _)); refine blk_put (cs := #[.slice none 0 0, .slice none 0 0]) ?_ 0 _ rfl; (with_reducible repeat (first | refine blk_drewN ?_ _ | refine blk_drew ?_ | refine blk_alloc ?_ _)); exact BK259.out) Try.underlying25 rfl (by kernel_rfl)) rfl ?_
         exact ⟨_, _, by first | rfl | (simp [errW_none, errW_some] <;> rfl) | (simp [*, errW_none, errW_some] <;> rfl), by first | exact Kd.R_nil _ _ _ _ _ | exact Kd.N_nil _ _ _ _ _ | exact Kd.V_nil _ _ _ _ _ | exact Kd.Q_nil _ _ _ _ _ | exact Kd.S_nil _ _ _ _ _, by first | exact Kd.R_nil _ _ _ _ _ | exact Kd.N_nil _ _ _ _ _ | exact Kd.V_nil _ _ _ _ _ | exact Kd.Q_nil _ _ _ _ _ | exact Kd.S_nil _ _ _ _ _, zw3_ HB GE257 GE258 GE259⟩
       ·rw [if_neg c48] at H
        exact absurd H (by simp)
      ·rw [if_neg c47] at H
       exact absurd H (by simp)
     ·rw [if_neg c46] at H
      have c46b0 : ((l1_0.length : Int) == 3) = false := beq_eq_false_iff_ne.mpr c46
      have c46b1 : ((l1_0.length : Int) != 3) = true := bne_iff_ne.mpr c46
      simp only [Option.some.injEq, Prod.mk.injEq] at H
      obtain ⟨rfl, rfl, rfl⟩ := H
      try go_wp2
      replace BK257 := Aside0.mk (blk_drew BK257.out)
      replace BK258 := Aside0.mk (blk_drew BK258.out)
      replace BK259 := Aside0.mk (blk_drew BK259.out)
      replace HB := Aside0.mk (below_drew1 HB.out)
      refine start_ (n := 36) (S := fun w' => w'.cell? ⟨gb257, 0, none⟩ = some (.slice A0_0 l0_0.length c0_0) ∧ w'.cell? ⟨gb257, 1, none⟩ = some (.slice A0_1 l0_1.length c0_1) ∧ w'.cell? ⟨gb258, 0, none⟩ = some (.slice A1_0 l1_0.length c1_0) ∧ w'.cell? ⟨gb258, 1, none⟩ = some (.slice A1_1 l1_1.length c1_1)) (ds := []) #[false, false, false, false, false, false, false, false, false, false, false, false, false, false, false, false, false, false, false, false, false, false, false, false, false, false, false, false, false, false, false, false, false, false, false, false] (by kernel_rfl) rfl rfl ⟨(blk_cell BK257.out 0).trans rfl, (blk_cell BK257.out 1).trans rfl, (blk_cell BK258.out 0).trans rfl, (blk_cell BK258.out 1).trans rfl⟩ (fun hHeld => ?_); refine with_tabW conv_BackIn.tab3 conv_BackIn.bits3 (fun HT_ HW_ => ?_)
      generalize wc.drew = w139 at BK257 BK258 BK259 HB hHeld ⊢
      refine zp_ 0 (some 44) (h := ?_)
      refine zt_ 1 (some 45) (hr := by rintro w' ⟨s0, s1, s2, s3⟩; go_simp; with_reducible rfl) (h := ?_)
      refine zp_ 2 (some 46) (h := ?_)
      refine zp_ 3 (some 47) (h := ?_)
      refine zp_ 4 (some 48) (h := ?_)
      refine zp_ 5 (some 49) (h := ?_)
      refine zt_ 6 (some 50) (hr := by rintro w' ⟨s0, s1, s2, s3⟩; go_simp; with_reducible rfl) (h := ?_)
      refine zp_ 7 (some 51) (h := ?_)
      refine zp_ 8 (some 52) (h := ?_)
      refine zp_ 9 (some 53) (h := ?_)
      refine zp_ 10 (some 54) (h := ?_)
      refine zu_ 11 (some 55) (h := ?_)
      refine zu_ 12 (some 56) (h := ?_)
      refine zu_ 13 (some 57) (h := ?_)
      refine zu_ 14 (some 58) (h := ?_)
      refine zu_ 15 (some 59) (h := ?_)
      refine zu_ 16 (some 60) (h := ?_)
      refine zu_ 17 (some 61) (h := ?_)
      refine zu_ 18 (some 62) (h := ?_)
      refine zu_ 19 (some 63) (h := ?_)
      refine zp_ 20 (some 64) (h := ?_)
      refine zp_ 21 (some 65) (h := ?_)
      refine zu_ 22 (some 66) (h := ?_)
      refine zu_ 23 (some 67) (h := ?_)
      refine zu_ 24 (some 68) (h := ?_)
      refine zu_ 25 (some 69) (h := ?_)
      refine zu_ 26 (some 70) (h := ?_)
      refine zu_ 27 (some 71) (h := ?_)
      refine zu_ 28 (some 72) (h := ?_)
      refine zu_ 29 (some 73) (h := ?_)
      refine zu_ 30 (some 74) (h := ?_)
      refine zu_ 31 (some 75) (h := ?_)
      refine zu_ 32 (some 76) (h := ?_)
      refine zu_ 33 (some 77) (h := ?_)
      refine zp_ 34 (some 78) (h := ?_)
      refine zp_ 35 (some 43) (h := ?_)
      refine done_ (done_of HT_.out (by kernel_rfl)) ?_
      have hnb140 := NB259_257.out
      have hnc140 := NB257_259.out
      have hnb141 := NB259_258.out
      have hnc141 := NB258_259.out
      have hcz142_0 := zx_ (v := .slice none 0 0) BK259 0
      have hcz142_1 := zx_ (v := .slice none 0 0) BK259 1
      have hfz142_0 := blk_frozen BK259.out 0
      have hfz142_1 := blk_frozen BK259.out 1
      try go_wp2
      refine bodyPost_ret (results_ct rfl _ _ gb259 25 #[.slice none 0 0, .slice none 0 0] (0, 0) _ rfl (by (with_reducible repeat (first | refine blk_drewN ?_ _ | refine blk_drew ?_ | refine blk_alloc ?_ _)); refine blk_put (cs := #[.slice none 0 0, .slice none 0 0]) ?_ 1 _ rfl; (with_reducible repeat (first | refine blk_drewN ?_ _ | refine blk_drew ?_ | refine blk_alloc ?_ _)); refine blk_put (cs := #[.slice none 0 0, .slice none 0 0]) ?_ 0 _ rfl; (with_reducible repeat (first | refine blk_drewN ?_ _ | refine blk_drew ?_ | refine blk_alloc ?_ _)); exact BK259.out) Try.underlying25 rfl (by kernel_rfl)) rfl ?_
      exact ⟨_, _, by first | rfl | (simp [errW_none, errW_some] <;> rfl) | (simp [*, errW_none, errW_some] <;> rfl), by first | exact Kd.R_nil _ _ _ _ _ | exact Kd.N_nil _ _ _ _ _ | exact Kd.V_nil _ _ _ _ _ | exact Kd.Q_nil _ _ _ _ _ | exact Kd.S_nil _ _ _ _ _, by first | exact Kd.R_nil _ _ _ _ _ | exact Kd.N_nil _ _ _ _ _ | exact Kd.V_nil _ _ _ _ _ | exact Kd.Q_nil _ _ _ _ _ | exact Kd.S_nil _ _ _ _ _, zw3_ HB GE257 GE258 GE259⟩
    ·rw [if_neg c45] at H
     have c45b0 : ((l0_0.length : Int) == 2) = false := beq_eq_false_iff_ne.mpr c45
     have c45b1 : ((l0_0.length : Int) != 2) = true := bne_iff_ne.mpr c45
     simp only [Option.some.injEq, Prod.mk.injEq] at H
     obtain ⟨rfl, rfl, rfl⟩ := H
     try go_wp2
     replace BK257 := Aside0.mk (blk_drew BK257.out)
     replace BK258 := Aside0.mk (blk_drew BK258.out)
     replace BK259 := Aside0.mk (blk_drew BK259.out)
     replace HB := Aside0.mk (below_drew1 HB.out)
     refine start_ (n := 36) (S := fun w' => w'.cell? ⟨gb257, 0, none⟩ = some (.slice A0_0 l0_0.length c0_0) ∧ w'.cell? ⟨gb257, 1, none⟩ = some (.slice A0_1 l0_1.length c0_1)) (ds := []) #[false, false, false, false, false, false, false, false, false, false, false, false, false, false, false, false, false, false, false, false, false, false, false, false, false, false, false, false, false, false, false, false, false, false, false, false] (by kernel_rfl) rfl rfl ⟨(blk_cell BK257.out 0).trans rfl, (blk_cell BK257.out 1).trans rfl⟩ (fun hHeld => ?_); refine with_tabW conv_BackIn.tab3 conv_BackIn.bits3 (fun HT_ HW_ => ?_)
     generalize wc.drew = w143 at BK257 BK258 BK259 HB hHeld ⊢
     refine zp_ 0 (some 44) (h := ?_)
     refine zt_ 1 (some 45) (hr := by rintro w' ⟨s0, s1⟩; go_simp; with_reducible rfl) (h := ?_)
     refine zp_ 2 (some 46) (h := ?_)
     refine zp_ 3 (some 47) (h := ?_)
     refine zp_ 4 (some 48) (h := ?_)
     refine zu_ 5 (some 49) (h := ?_)
     refine zu_ 6 (some 50) (h := ?_)
     refine zu_ 7 (some 51) (h := ?_)
     refine zu_ 8 (some 52) (h := ?_)
     refine zp_ 9 (some 53) (h := ?_)
     refine zp_ 10 (some 54) (h := ?_)
     refine zu_ 11 (some 55) (h := ?_)
     refine zu_ 12 (some 56) (h := ?_)
     refine zu_ 13 (some 57) (h := ?_)
     refine zu_ 14 (some 58) (h := ?_)
     refine zu_ 15 (some 59) (h := ?_)
     refine zu_ 16 (some 60) (h := ?_)
     refine zu_ 17 (some 61) (h := ?_)
     refine zu_ 18 (some 62) (h := ?_)
     refine zu_ 19 (some 63) (h := ?_)
     refine zp_ 20 (some 64) (h := ?_)
     refine zp_ 21 (some 65) (h := ?_)
     refine zu_ 22 (some 66) (h := ?_)
     refine zu_ 23 (some 67) (h := ?_)
     refine zu_ 24 (some 68) (h := ?_)
     refine zu_ 25 (some 69) (h := ?_)
     refine zu_ 26 (some 70) (h := ?_)
     refine zu_ 27 (some 71) (h := ?_)
     refine zu_ 28 (some 72) (h := ?_)
     refine zu_ 29 (some 73) (h := ?_)
     refine zu_ 30 (some 74) (h := ?_)
     refine zu_ 31 (some 75) (h := ?_)
     refine zu_ 32 (some 76) (h := ?_)
     refine zu_ 33 (some 77) (h := ?_)
     refine zp_ 34 (some 78) (h := ?_)
     refine zp_ 35 (some 43) (h := ?_)
     refine done_ (done_of HT_.out (by kernel_rfl)) ?_
     have hnb144 := NB259_257.out
     have hnc144 := NB257_259.out
     have hnb145 := NB259_258.out
     have hnc145 := NB258_259.out
     have hcz146_0 := zx_ (v := .slice none 0 0) BK259 0
     have hcz146_1 := zx_ (v := .slice none 0 0) BK259 1
     have hfz146_0 := blk_frozen BK259.out 0
     have hfz146_1 := blk_frozen BK259.out 1
     try go_wp2
     refine bodyPost_ret (results_ct rfl _ _ gb259 25 #[.slice none 0 0, .slice none 0 0] (0, 0) _ rfl (by (with_reducible repeat (first | refine blk_drewN ?_ _ | refine blk_drew ?_ | refine blk_alloc ?_ _)); refine blk_put (cs := #[.slice none 0 0, .slice none 0 0]) ?_ 1 _ rfl; (with_reducible repeat (first | refine blk_drewN ?_ _ | refine blk_drew ?_ | refine blk_alloc ?_ _)); refine blk_put (cs := #[.slice none 0 0, .slice none 0 0]) ?_ 0 _ rfl; (with_reducible repeat (first | refine blk_drewN ?_ _ | refine blk_drew ?_ | refine blk_alloc ?_ _)); exact BK259.out) Try.underlying25 rfl (by kernel_rfl)) rfl ?_
     exact ⟨_, _, by first | rfl | (simp [errW_none, errW_some] <;> rfl) | (simp [*, errW_none, errW_some] <;> rfl), by first | exact Kd.R_nil _ _ _ _ _ | exact Kd.N_nil _ _ _ _ _ | exact Kd.V_nil _ _ _ _ _ | exact Kd.Q_nil _ _ _ _ _ | exact Kd.S_nil _ _ _ _ _, by first | exact Kd.R_nil _ _ _ _ _ | exact Kd.N_nil _ _ _ _ _ | exact Kd.V_nil _ _ _ _ _ | exact Kd.Q_nil _ _ _ _ _ | exact Kd.S_nil _ _ _ _ _, zw3_ HB GE257 GE258 GE259⟩

end Go.Proofs.Ytcipfhlcgnomaaa.PConvOne
