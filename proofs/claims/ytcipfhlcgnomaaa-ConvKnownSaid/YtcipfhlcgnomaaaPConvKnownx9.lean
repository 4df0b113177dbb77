/- The functions that the law ConvKnown reaches, as Lean functions, and that each call of the Go function does what its Lean function says, wherever that one answers. Written by a program of mine over the print of the kit; Lean checks it. -/
import Derived.Test.YtcipfhlcgnomaaaPConvKnownx0
import Derived.Test.YtcipfhlcgnomaaaPConvKnownx1
import Derived.Test.YtcipfhlcgnomaaaPConvKnownx2
import Derived.Test.YtcipfhlcgnomaaaPConvKnownx4
import Derived.Test.YtcipfhlcgnomaaaPConvKnownx8
namespace Go.Proofs.Ytcipfhlcgnomaaa.PConvKnown
open Go.RowKit Go.Proofs.YtcipfhlcgnomaaaW.PrintWords Go.Proofs.YtcipfhlcgnomaaaW.PrintLast Go.Proofs.YtcipfhlcgnomaaaW.PrintMore
attribute [local go_sem] max2_int min2_int max_two min_two max_three min_three max_four min_four   -- for this text's walks alone
set_option linter.unusedVariables false
set_option linter.unusedSimpArgs false

/-! ### conv_BackIn: function 22 -/
mutual
def conv_BackIn.j0 : Nat → Int → Int → Bool → List Int → List Int → List Int → List Int → Option (List Int × List Int × Int)
 | 0, _, _, _, _, _, _, _ => none
 | k + 1, x2, x3, x23, x266000, x266001, x267000, x267001 => if x23 = true then (some (([] : List Int), ([] : List Int), 1)) else (if (x266000.length : Int) = 2 then (if (x267000.length : Int) = 3 then (if 0 < (x267000.length : Int) then (if 0 < (x266000.length : Int) then (if (rd x267000 0) = (rd x266000 0) then (if 2 < (x267000.length : Int) then ((conv_windows.f x3 (rd x267000 2) x2).bind fun t275 => (if 1 < (x266000.length : Int) then (if t275 = (rd x266000 1) then (if 1 < (x267000.length : Int) then ((conv_of.f k (([rd x267000 1, x3] : List Int))).bind fun bt284 => (if bt284.2.2 = 0 then (conv_BackIn.l0 k x2 x3 (rd x267000 0) (rd x267000 1) (rd x267000 2) (rd x266000 1) (bt284.2.1.length : Int) 0 x266000 x266001 x267000 x267001 bt284.1 bt284.2.1) else (some (([] : List Int), ([] : List Int), bt284.2.2)))) else (none)) else (some (([] : List Int), ([] : List Int), 4))) else (none))) else (none)) else (some (([] : List Int), ([] : List Int), 4))) else (none)) else (none)) else (some (([] : List Int), ([] : List Int), 4))) else (some (([] : List Int), ([] : List Int), 4)))
def conv_BackIn.l0 : Nat → Int → Int → Int → Int → Int → Int → Int → Int → List Int → List Int → List Int → List Int → List Int → List Int → Option (List Int × List Int × Int)
 | 0, _, _, _, _, _, _, _, _, _, _, _, _, _, _ => none
 | k + 1, x2, x3, x10, x11, x12, x13, x109, x110, x266000, x266001, x267000, x267001, x292000, x292001 => if x110 < x109 then (if x3 = 0 then (none) else (conv_BackIn.l1 k x2 x3 x10 x11 x12 x13 x110 (wrap64 (Int.tdiv x110 x3)) (Int.tmod x110 x3) x109 x110 x10 0 x266000 x266001 x267000 x267001 x292000 x292001 0 0 0)) else (some (x292000, x292001, 0))
def conv_BackIn.l1 : Nat → Int → Int → Int → Int → Int → Int → Int → Int → Int → Int → Int → Int → Int → List Int → List Int → List Int → List Int → List Int → List Int → Int → Int → Int → Option (List Int × List Int × Int)
 | 0, _, _, _, _, _, _, _, _, _, _, _, _, _, _, _, _, _, _, _, _, _, _ => none
 | k + 1, x2, x3, x10, x11, x12, x13, x16, x17, x18, x109, x110, x119, x120, x266000, x266001, x267000, x267001, x292000, x292001, x293000, x293001, x293002 => if x120 < x119 then (conv_BackIn.l2 k x2 x3 x10 x11 x12 x13 x16 x17 x18 x120 x109 x110 x119 x120 (mn x12 (wrap64 (x18 + 1))) 0 x266000 x266001 x267000 x267001 x292000 x292001 x293000 x293001 x293002) else ((wide_Acc_Fix.f k x293000 x293001 x293002 32).bind fun t293 => (if 0 ≤ x16 then (if x16 < (x292001.length : Int) then (conv_BackIn.l0 k x2 x3 x10 x11 x12 x13 x109 (wrap64 (x110 + 1)) x266000 x266001 x267000 x267001 x292000 (x292001.set (x16 : Int).toNat t293)) else (none)) else (none)))
def conv_BackIn.l2 : Nat → Int → Int → Int → Int → Int → Int → Int → Int → Int → Int → Int → Int → Int → Int → Int → Int → List Int → List Int → List Int → List Int → List Int → List Int → Int → Int → Int → Option (List Int × List Int × Int)
 | 0, _, _, _, _, _, _, _, _, _, _, _, _, _, _, _, _, _, _, _, _, _, _, _, _, _ => none
 | k + 1, x2, x3, x10, x11, x12, x13, x16, x17, x18, x20, x109, x110, x119, x120, x126, x127, x266000, x266001, x267000, x267001, x292000, x292001, x293000, x293001, x293002 => if x127 < x126 then (if x2 = 0 then (none) else (if (Int.tmod (wrap64 (x18 - x127)) x2) = 0 then (if (wrap64 (Int.tdiv (wrap64 (x18 - x127)) x2)) < x13 then (if 0 ≤ (wrap64 ((wrap64 (x20 * x13)) + (wrap64 (Int.tdiv (wrap64 (x18 - x127)) x2)))) then (if (wrap64 ((wrap64 (x20 * x13)) + (wrap64 (Int.tdiv (wrap64 (x18 - x127)) x2)))) < (x266001.length : Int) then (if 0 ≤ (wrap64 ((wrap64 ((wrap64 ((wrap64 (x20 * x11)) + x17)) * x12)) + x127)) then (if (wrap64 ((wrap64 ((wrap64 ((wrap64 (x20 * x11)) + x17)) * x12)) + x127)) < (x267001.length : Int) then ((wide_Acc_Plus.f x293000 x293001 x293002 (rd x266001 (wrap64 ((wrap64 (x20 * x13)) + (wrap64 (Int.tdiv (wrap64 (x18 - x127)) x2))))) (rd x267001 (wrap64 ((wrap64 ((wrap64 ((wrap64 (x20 * x11)) + x17)) * x12)) + x127)))).bind fun bt297 => (conv_BackIn.l2 k x2 x3 x10 x11 x12 x13 x16 x17 x18 x20 x109 x110 x119 x120 x126 (wrap64 (x127 + 1)) x266000 x266001 x267000 x267001 x292000 x292001 bt297.1 bt297.2.1 bt297.2.2)) else (none)) else (none)) else (none)) else (none)) else (conv_BackIn.l2 k x2 x3 x10 x11 x12 x13 x16 x17 x18 x20 x109 x110 x119 x120 x126 (wrap64 (x127 + 1)) x266000 x266001 x267000 x267001 x292000 x292001 x293000 x293001 x293002)) else (conv_BackIn.l2 k x2 x3 x10 x11 x12 x13 x16 x17 x18 x20 x109 x110 x119 x120 x126 (wrap64 (x127 + 1)) x266000 x266001 x267000 x267001 x292000 x292001 x293000 x293001 x293002))) else (conv_BackIn.l1 k x2 x3 x10 x11 x12 x13 x16 x17 x18 x109 x110 x119 (wrap64 (x120 + 1)) x266000 x266001 x267000 x267001 x292000 x292001 x293000 x293001 x293002)
end
def conv_BackIn.f (k : Nat) (l0_0 : List Int) (l0_1 : List Int) (l1_0 : List Int) (l1_1 : List Int) (a2 : Int) (a3 : Int) : Option (List Int × List Int × Int) := (tens_Good.f k l0_0 l0_1).bind fun t268 => (if t268 = true then ((tens_Good.f k l1_0 l1_1).bind fun t269 => (if t269 = true then ((conv_stepGood.f a2).bind fun t270 => (if t270 = true then ((conv_sized.f a3).bind fun t271 => (conv_BackIn.j0 k a2 a3 (!t271) l0_0 l0_1 l1_0 l1_1)) else (conv_BackIn.j0 k a2 a3 true l0_0 l0_1 l1_0 l1_1))) else (conv_BackIn.j0 k a2 a3 true l0_0 l0_1 l1_0 l1_1))) else (conv_BackIn.j0 k a2 a3 true l0_0 l0_1 l1_0 l1_1))
theorem conv_BackIn.mono_l : ∀ k, (∀ y0 y1 y2 y3 y4 y5 y6, LeO (conv_BackIn.j0 k y0 y1 y2 y3 y4 y5 y6) (conv_BackIn.j0 (k + 1) y0 y1 y2 y3 y4 y5 y6)) ∧ (∀ y0 y1 y2 y3 y4 y5 y6 y7 y8 y9 y10 y11 y12 y13, LeO (conv_BackIn.l0 k y0 y1 y2 y3 y4 y5 y6 y7 y8 y9 y10 y11 y12 y13) (conv_BackIn.l0 (k + 1) y0 y1 y2 y3 y4 y5 y6 y7 y8 y9 y10 y11 y12 y13)) ∧ (∀ y0 y1 y2 y3 y4 y5 y6 y7 y8 y9 y10 y11 y12 y13 y14 y15 y16 y17 y18 y19 y20 y21, LeO (conv_BackIn.l1 k y0 y1 y2 y3 y4 y5 y6 y7 y8 y9 y10 y11 y12 y13 y14 y15 y16 y17 y18 y19 y20 y21) (conv_BackIn.l1 (k + 1) y0 y1 y2 y3 y4 y5 y6 y7 y8 y9 y10 y11 y12 y13 y14 y15 y16 y17 y18 y19 y20 y21)) ∧ (∀ y0 y1 y2 y3 y4 y5 y6 y7 y8 y9 y10 y11 y12 y13 y14 y15 y16 y17 y18 y19 y20 y21 y22 y23 y24, LeO (conv_BackIn.l2 k y0 y1 y2 y3 y4 y5 y6 y7 y8 y9 y10 y11 y12 y13 y14 y15 y16 y17 y18 y19 y20 y21 y22 y23 y24) (conv_BackIn.l2 (k + 1) y0 y1 y2 y3 y4 y5 y6 y7 y8 y9 y10 y11 y12 y13 y14 y15 y16 y17 y18 y19 y20 y21 y22 y23 y24))
 | 0 => ⟨fun _ _ _ _ _ _ _ r h => by simp [conv_BackIn.j0] at h, fun _ _ _ _ _ _ _ _ _ _ _ _ _ _ r h => by simp [conv_BackIn.l0] at h, fun _ _ _ _ _ _ _ _ _ _ _ _ _ _ _ _ _ _ _ _ _ _ r h => by simp [conv_BackIn.l1] at h, fun _ _ _ _ _ _ _ _ _ _ _ _ _ _ _ _ _ _ _ _ _ _ _ _ _ r h => by simp [conv_BackIn.l2] at h⟩
 | k + 1 => by
  obtain ⟨ih0, ih1, ih2, ih3⟩ := conv_BackIn.mono_l k
  refine ⟨?_, ?_, ?_, ?_⟩
  ·intro y0 y1 y2 y3 y4 y5 y6
   unfold conv_BackIn.j0
   repeat' first
   | (with_reducible exact ih0 _ _ _ _ _ _ _)
   | (with_reducible exact ih1 _ _ _ _ _ _ _ _ _ _ _ _ _ _)
   | (with_reducible exact ih2 _ _ _ _ _ _ _ _ _ _ _ _ _ _ _ _ _ _ _ _ _ _)
   | (with_reducible exact ih3 _ _ _ _ _ _ _ _ _ _ _ _ _ _ _ _ _ _ _ _ _ _ _ _ _)
   | (with_reducible exact conv_of.mono _ _)
   | (with_reducible exact LeO.refl _)
   | (with_reducible exact LeO.none _)
   | (with_reducible refine LeO.ite ?_ ?_)
   | (with_reducible refine LeO.bind ?_ (fun _ => ?_))
   | exact ih0 _ _ _ _ _ _ _
   | exact ih1 _ _ _ _ _ _ _ _ _ _ _ _ _ _
   | exact ih2 _ _ _ _ _ _ _ _ _ _ _ _ _ _ _ _ _ _ _ _ _ _
   | exact ih3 _ _ _ _ _ _ _ _ _ _ _ _ _ _ _ _ _ _ _ _ _ _ _ _ _
   | exact conv_of.mono _ _
   | exact LeO.none _
   | refine LeO.ite ?_ ?_
   | refine LeO.bind ?_ (fun _ => ?_)
  ·intro y0 y1 y2 y3 y4 y5 y6 y7 y8 y9 y10 y11 y12 y13
   unfold conv_BackIn.l0
   repeat' first
   | (with_reducible exact ih0 _ _ _ _ _ _ _)
   | (with_reducible exact ih1 _ _ _ _ _ _ _ _ _ _ _ _ _ _)
   | (with_reducible exact ih2 _ _ _ _ _ _ _ _ _ _ _ _ _ _ _ _ _ _ _ _ _ _)
   | (with_reducible exact ih3 _ _ _ _ _ _ _ _ _ _ _ _ _ _ _ _ _ _ _ _ _ _ _ _ _)
   | (with_reducible exact LeO.refl _)
   | (with_reducible exact LeO.none _)
   | (with_reducible refine LeO.ite ?_ ?_)
   | (with_reducible refine LeO.bind ?_ (fun _ => ?_))
   | exact ih0 _ _ _ _ _ _ _
   | exact ih1 _ _ _ _ _ _ _ _ _ _ _ _ _ _
   | exact ih2 _ _ _ _ _ _ _ _ _ _ _ _ _ _ _ _ _ _ _ _ _ _
   | exact ih3 _ _ _ _ _ _ _ _ _ _ _ _ _ _ _ _ _ _ _ _ _ _ _ _ _
   | exact LeO.none _
   | refine LeO.ite ?_ ?_
   | refine LeO.bind ?_ (fun _ => ?_)
  ·intro y0 y1 y2 y3 y4 y5 y6 y7 y8 y9 y10 y11 y12 y13 y14 y15 y16 y17 y18 y19 y20 y21
   unfold conv_BackIn.l1
   repeat' first
   | (with_reducible exact ih0 _ _ _ _ _ _ _)
   | (with_reducible exact ih1 _ _ _ _ _ _ _ _ _ _ _ _ _ _)
   | (with_reducible exact ih2 _ _ _ _ _ _ _ _ _ _ _ _ _ _ _ _ _ _ _ _ _ _)
   | (with_reducible exact ih3 _ _ _ _ _ _ _ _ _ _ _ _ _ _ _ _ _ _ _ _ _ _ _ _ _)
   | (with_reducible exact wide_Acc_Fix.mono _ _ _ _ _)
   | (with_reducible exact LeO.refl _)
   | (with_reducible exact LeO.none _)
   | (with_reducible refine LeO.ite ?_ ?_)
   | (with_reducible refine LeO.bind ?_ (fun _ => ?_))
   | exact ih0 _ _ _ _ _ _ _
   | exact ih1 _ _ _ _ _ _ _ _ _ _ _ _ _ _
   | exact ih2 _ _ _ _ _ _ _ _ _ _ _ _ _ _ _ _ _ _ _ _ _ _
   | exact ih3 _ _ _ _ _ _ _ _ _ _ _ _ _ _ _ _ _ _ _ _ _ _ _ _ _
   | exact wide_Acc_Fix.mono _ _ _ _ _
   | exact LeO.none _
   | refine LeO.ite ?_ ?_
   | refine LeO.bind ?_ (fun _ => ?_)
  ·intro y0 y1 y2 y3 y4 y5 y6 y7 y8 y9 y10 y11 y12 y13 y14 y15 y16 y17 y18 y19 y20 y21 y22 y23 y24
   unfold conv_BackIn.l2
   repeat' first
   | (with_reducible exact ih0 _ _ _ _ _ _ _)
   | (with_reducible exact ih1 _ _ _ _ _ _ _ _ _ _ _ _ _ _)
   | (with_reducible exact ih2 _ _ _ _ _ _ _ _ _ _ _ _ _ _ _ _ _ _ _ _ _ _)
   | (with_reducible exact ih3 _ _ _ _ _ _ _ _ _ _ _ _ _ _ _ _ _ _ _ _ _ _ _ _ _)
   | (with_reducible exact LeO.refl _)
   | (with_reducible exact LeO.none _)
   | (with_reducible refine LeO.ite ?_ ?_)
   | (with_reducible refine LeO.bind ?_ (fun _ => ?_))
   | exact ih0 _ _ _ _ _ _ _
   | exact ih1 _ _ _ _ _ _ _ _ _ _ _ _ _ _
   | exact ih2 _ _ _ _ _ _ _ _ _ _ _ _ _ _ _ _ _ _ _ _ _ _
   | exact ih3 _ _ _ _ _ _ _ _ _ _ _ _ _ _ _ _ _ _ _ _ _ _ _ _ _
   | exact LeO.none _
   | refine LeO.ite ?_ ?_
   | refine LeO.bind ?_ (fun _ => ?_)
theorem conv_BackIn.mono : ∀ a0 a1 a2 a3 a4 a5 k, LeO (conv_BackIn.f k a0 a1 a2 a3 a4 a5) (conv_BackIn.f (k + 1) a0 a1 a2 a3 a4 a5) := by
 intro a0 a1 a2 a3 a4 a5 k
 obtain ⟨ih0, ih1, ih2, ih3⟩ := conv_BackIn.mono_l k
 unfold conv_BackIn.f
 repeat' first
   | (with_reducible exact ih0 _ _ _ _ _ _ _)
   | (with_reducible exact ih1 _ _ _ _ _ _ _ _ _ _ _ _ _ _)
   | (with_reducible exact ih2 _ _ _ _ _ _ _ _ _ _ _ _ _ _ _ _ _ _ _ _ _ _)
   | (with_reducible exact ih3 _ _ _ _ _ _ _ _ _ _ _ _ _ _ _ _ _ _ _ _ _ _ _ _ _)
   | (with_reducible exact tens_Good.mono _ _ _)
   | (with_reducible exact LeO.refl _)
   | (with_reducible exact LeO.none _)
   | (with_reducible refine LeO.ite ?_ ?_)
   | (with_reducible refine LeO.bind ?_ (fun _ => ?_))
   | exact ih0 _ _ _ _ _ _ _
   | exact ih1 _ _ _ _ _ _ _ _ _ _ _ _ _ _
   | exact ih2 _ _ _ _ _ _ _ _ _ _ _ _ _ _ _ _ _ _ _ _ _ _
   | exact ih3 _ _ _ _ _ _ _ _ _ _ _ _ _ _ _ _ _ _ _ _ _ _ _ _ _
   | exact tens_Good.mono _ _ _
   | exact LeO.none _
   | refine LeO.ite ?_ ?_
   | refine LeO.bind ?_ (fun _ => ?_)
def conv_BackIn.T3 : Bool × List (List Nat × List Nat) := (true, [([], []), ([0], [0]), ([1], [1]), ([2], [2]), ([3], [3]), ([4], [4]), ([5, 4], [4, 5]), ([6, 4], [4, 6]), ([7, 4], [4, 7]), ([4, 8], [4, 8]), ([9, 4], [9]), ([10], [10]), ([11, 10], [10, 11]), ([12, 10], [10, 12]), ([13, 10], [10, 13]), ([10], [10]), ([15, 10], [10, 15]), ([16, 10], [10, 16]), ([17, 10], [10, 17]), ([14, 18, 10], [10, 14, 18]), ([10, 19], [10, 19]), ([20, 10], [20]), ([21], [21]), ([21], [21]), ([23, 21], [21, 23]), ([24, 21], [21, 24]), ([25, 21], [21, 25]), ([21], [21]), ([22, 26, 27, 21, 21], [21, 22, 26, 27]), ([21], [21]), ([29, 21], [21, 29]), ([30, 21], [21, 30]), ([31, 21], [21, 31]), ([28, 32, 21], [21, 28, 32]), ([21, 33], [21, 33]), ([34, 28], [34])])
def conv_BackIn.B3 : List Nat := [0, 1, 3, 7, 15, 31, 63, 127, 255, 511, 1023, 2047, 4095, 8191, 16383, 2047, 34815, 100351, 231423, 524287, 1048575, 2097151, 4194303, 4194303, 12582911, 29360127, 62914559, 4194303, 268435455, 4194303, 541065215, 1614807039, 3762290687, 8589934591, 17179869183, 34359738367]
theorem conv_BackIn.tab3 : rtab .any (opsOf Try.f22 3) = conv_BackIn.T3 := by kernel_rfl
theorem conv_BackIn.bits3 : waitsOk conv_BackIn.T3.2 conv_BackIn.B3 = true := by kernel_rfl
def conv_BackIn.T5 : Bool × List (List Nat × List Nat) := (true, [([], []), ([0], [0]), ([1], [1]), ([2], [2]), ([], []), ([4], [4]), ([5], [5]), ([6], [6]), ([], []), ([8], [8]), ([9], [9]), ([10], [10]), ([], []), ([12], [12]), ([13], [13]), ([14], [14]), ([3, 0, 1, 2, 3], [3]), ([7, 16, 0, 1, 2, 3, 4, 5, 6, 7, 16], [7]), ([11, 17, 0, 1, 2, 3, 4, 5, 6, 7, 8, 9, 10, 11, 16, 17], [11]), ([15, 18, 0, 1, 2, 3, 4, 5, 6, 7, 8, 9, 10, 11, 12, 13, 14, 15, 16, 17, 18], [15])])
def conv_BackIn.B5 : List Nat := [0, 1, 3, 7, 0, 16, 48, 112, 0, 256, 768, 1792, 0, 4096, 12288, 28672, 15, 65791, 200703, 524287]
theorem conv_BackIn.tab5 : rtab .any (opsOf Try.f22 5) = conv_BackIn.T5 := by kernel_rfl
theorem conv_BackIn.bits5 : waitsOk conv_BackIn.T5.2 conv_BackIn.B5 = true := by kernel_rfl
def conv_BackIn.T12 : Bool × List (List Nat × List Nat) := (true, [([], []), ([], []), ([0, 1], [0, 1]), ([], []), ([], []), ([3, 4], [3, 4]), ([2, 0, 1, 2], [2]), ([5, 6, 0, 1, 2, 3, 4, 5, 6], [5])])
def conv_BackIn.B12 : List Nat := [0, 0, 3, 0, 0, 24, 7, 127]
theorem conv_BackIn.tab12 : rtab .any (opsOf Try.f22 12) = conv_BackIn.T12 := by kernel_rfl
theorem conv_BackIn.bits12 : waitsOk conv_BackIn.T12.2 conv_BackIn.B12 = true := by kernel_rfl
def conv_BackIn.T22 : Bool × List (List Nat × List Nat) := (true, [([], []), ([0], [0]), ([], []), ([], []), ([2, 3], [2, 3]), ([], []), ([4, 5], [4, 5]), ([1, 6], [1, 6]), ([7], [7]), ([], []), ([9], [9]), ([], []), ([], []), ([11, 12], [11, 12]), ([], []), ([13, 14], [13, 14]), ([], []), ([15, 16], [15, 16]), ([], []), ([17, 18], [17, 18]), ([10, 19], [10, 19]), ([20], [20]), ([8, 21], [8, 21])])
def conv_BackIn.B22 : List Nat := [0, 1, 0, 0, 12, 0, 60, 127, 255, 0, 512, 0, 0, 6144, 0, 30720, 0, 129024, 0, 522240, 1048064, 2096640, 4194303]
theorem conv_BackIn.tab22 : rtab .any (opsOf Try.f22 22) = conv_BackIn.T22 := by kernel_rfl
theorem conv_BackIn.bits22 : waitsOk conv_BackIn.T22.2 conv_BackIn.B22 = true := by kernel_rfl
set_option maxHeartbeats 8000000 in
set_option maxRecDepth 100000 in
theorem conv_BackIn.calls (k : Nat) (A0_0 : Option Addr) (c0_0 : Nat) (l0_0 : List Int) (A0_1 : Option Addr) (c0_1 : Nat) (l0_1 : List Int) (A1_0 : Option Addr) (c1_0 : Nat) (l1_0 : List Int) (A1_1 : Option Addr) (c1_1 : Nat) (l1_1 : List Int) (a2 : Int) (a3 : Int) (r1 : List Int) (r2 : List Int) (r3 : Int) (w : World) (hr0_0 : Kd.C (Kd.int .i64) w A0_0 l0_0.length l0_0) (hc0_0 : l0_0.length ≤ c0_0) (hr0_1 : Kd.C (Kd.int .i64) w A0_1 l0_1.length l0_1) (hc0_1 : l0_1.length ≤ c0_1) (hr1_0 : Kd.C (Kd.int .i64) w A1_0 l1_0.length l1_0) (hc1_0 : l1_0.length ≤ c1_0) (hr1_1 : Kd.C (Kd.int .i64) w A1_1 l1_1.length l1_1) (hc1_1 : l1_1.length ≤ c1_1) (h : conv_BackIn.f k l0_0 l0_1 l1_0 l1_1 a2 a3 = some (r1, r2, r3)) :
  Calls Try.prog 22 #[.agg #[.slice A0_0 l0_0.length c0_0, .slice A0_1 l0_1.length c0_1], .agg #[.slice A1_0 l1_0.length c1_0, .slice A1_1 l1_1.length c1_1], .int .i64 a2, .int .i64 a3] w fun e w' => ∃ v0_ v1_ : Value, e = .returned (.tuple #[.agg #[v0_, v1_], .int .i64 r3]) ∧ Kd.R (Kd.int .i64) 3 w' w.heap.size (fun _ => True) v0_ r1 ∧ Kd.R (Kd.int .i64) 33 w' w.heap.size (fun _ => True) v1_ r2 ∧ Below w.heap.size w w' := by
 have hu25 := Try.underlying25
 have hu54 := Try.underlying54
 have HR0_0 := Aside0.mk hr0_0
 have HC0_0 := Aside0.mk hc0_0
 clear hr0_0 hc0_0
 have HR0_1 := Aside0.mk hr0_1
 have HC0_1 := Aside0.mk hc0_1
 clear hr0_1 hc0_1
 have HR1_0 := Aside0.mk hr1_0
 have HC1_0 := Aside0.mk hc1_0
 clear hr1_0 hc1_0
 have HR1_1 := Aside0.mk hr1_1
 have HC1_1 := Aside0.mk hc1_1
 clear hr1_1 hc1_1
 have HB := Aside0.mk (Below.refl w.heap.size w)
 have H : ((tens_Good.f k l0_0 l0_1).bind fun t268 => (if t268 = true then ((tens_Good.f k l1_0 l1_1).bind fun t269 => (if t269 = true then ((conv_stepGood.f a2).bind fun t270 => (if t270 = true then ((conv_sized.f a3).bind fun t271 => (conv_BackIn.j0 k a2 a3 (!t271) l0_0 l0_1 l1_0 l1_1)) else (conv_BackIn.j0 k a2 a3 true l0_0 l0_1 l1_0 l1_1))) else (conv_BackIn.j0 k a2 a3 true l0_0 l0_1 l1_0 l1_1))) else (conv_BackIn.j0 k a2 a3 true l0_0 l0_1 l1_0 l1_1))) = some (r1, r2, r3) := h
 clear h
 have HC5 := Aside0.mk H
 clear H
 go_enter Try.func22, Try.ntmps22
 go_upto_region 1 with (first | ((with_reducible refine gate_dst (N := 4) rfl ?_); (try (refine gate_guard (by rfl) ?_; dsimp only)); refine box_event ?hg (N := 4) ?hd (cs := #[.slice A0_0 l0_0.length c0_0, .slice A0_1 l0_1.length c0_1]) (t := 25) ?hr ?_; (case hd => rfl); (case hg => rfl); (case hr => first | (go_simp; done) | (go_simp; rfl)); intro gb265 hg w6 hbox hb; have BK265 := Aside0.mk (hbox); have GW265 := Aside0.mk (zs_ hg (zw0_ HB)); have GE265 := Aside0.mk (zs_ hg (zw0_ HB)); replace HB := Aside0.mk (below_step (zw0_ HB) hb); clear hb hbox hg) | ((with_reducible refine gate_dst (N := 5) rfl ?_); (try (refine gate_guard (by rfl) ?_; dsimp only)); refine box_event ?hg (N := 5) ?hd (cs := #[.slice A1_0 l1_0.length c1_0, .slice A1_1 l1_1.length c1_1]) (t := 25) ?hr ?_; (case hd => rfl); (case hg => rfl); (case hr => first | (go_simp; done) | (go_simp; rfl)); intro gb266 hg w7 hbox hb; have BK266 := Aside0.mk (hbox); have GW266 := Aside0.mk (zs_ hg (zw1_ HB GE265)); have GE266 := Aside0.mk (zs_ hg (zw1_ HB GE265)); replace HB := Aside0.mk (below_step (zw1_ HB GE265) hb); have NB265_266 := Aside0.mk (zn_ hg BK265); have NB266_265 := Aside0.mk (zm_ hg BK265); replace BK265 := za_ BK265 hb; clear hb hbox hg) | ((with_reducible refine gate_dst (N := 8) rfl ?_); (try (refine gate_guard (by rfl) ?_; dsimp only)); refine box_event ?hg (N := 8) ?hd (cs := #[.slice none 0 0, .slice none 0 0]) (t := 25) ?hr ?_; (case hd => rfl); (case hg => rfl); (case hr => first | (go_simp; done) | (go_simp; rfl)); intro gb267 hg w8 hbox hb; have BK267 := Aside0.mk (hbox); have GW267 := Aside0.mk (zs_ hg (zw2_ HB GE265 GE266)); have GE267 := Aside0.mk (zs_ hg (zw2_ HB GE265 GE266)); replace HB := Aside0.mk (below_step (zw2_ HB GE265 GE266) hb); have NB265_267 := Aside0.mk (zn_ hg BK265); have NB267_265 := Aside0.mk (zm_ hg BK265); replace BK265 := za_ BK265 hb; have NB266_267 := Aside0.mk (zn_ hg BK266); have NB267_266 := Aside0.mk (zm_ hg BK266); replace BK266 := za_ BK266 hb; clear hb hbox hg))
 (try simp only [Act.put, List.setIfInBounds_toArray, List.set_cons_zero, List.set_cons_succ])
 go_cut [23] (fun v23 wc => ∃ (kq : Nat) (x23_4 : Bool), v23 = .bool x23_4 ∧ Aside0 (conv_BackIn.j0 kq a2 a3 x23_4 l0_0 l0_1 l1_0 l1_1 = some (r1, r2, r3)) ∧ Aside0 (kq ≤ k) ∧ Aside0 (wc.heap[gb265]? = some (.cells #[(.slice A0_0 l0_0.length c0_0), (.slice A0_1 l0_1.length c0_1)] 25 (0, 0))) ∧ Aside0 (wc.heap[gb266]? = some (.cells #[(.slice A1_0 l1_0.length c1_0), (.slice A1_1 l1_1.length c1_1)] 25 (0, 0))) ∧ Aside0 (wc.heap[gb267]? = some (.cells #[(.slice none 0 0), (.slice none 0 0)] 25 (0, 0))) ∧ Aside0 (Below w.heap.size w wc))
 case first =>
  have H := HC5.out
  clear HC5
  replace H := Option.bind_eq_some_iff.mp H
  obtain ⟨t268, A90, H⟩ := H
  (try dsimp only at H)
  have A9 := Aside0.mk A90
  clear A90
  by_cases c10 : t268 = true
  rotate_left
  ·replace c10 := Bool.eq_false_iff.mpr c10
   subst c10
   have H1 : (conv_BackIn.j0 k a2 a3 true l0_0 l0_1 l1_0 l1_1) = some (r1, r2, r3) := by rw [if_neg (show ¬ (false = true) by decide)] at H; exact H
   clear H
   have H := H1
   clear H1
   have H' := Aside0.mk H
   clear H
   have hnb37 := NB265_266.out
   have hnc37 := NB266_265.out
   have hnb38 := NB265_267.out
   have hnc38 := NB267_265.out
   have hcz39_0 := zx_ (v := .slice A0_0 l0_0.length c0_0) BK265 0
   have hcz39_1 := zx_ (v := .slice A0_1 l0_1.length c0_1) BK265 1
   have hfz39_0 := blk_frozen BK265.out 0
   have hfz39_1 := blk_frozen BK265.out 1
   go_wp2_with (first | ((with_reducible refine gate_callee (f := 26) rfl ?_); refine zg_ (some 25) Try.func26 #[.agg #[.slice A0_0 l0_0.length c0_0, .slice A0_1 l0_1.length c0_1]] (h := ?_); (with_reducible refine (tens_Good.calls k _ _ l0_0 _ _ l0_1 false _ ?side1 ?side2 ?side3 ?side4 A9.out).mono ?_); (case side1 => exact zk_ (Kd.C_below HR0_0.out HB.out)); (case side2 => exact HC0_0.out); (case side3 => exact zk_ (Kd.C_below HR0_1.out HB.out)); (case side4 => exact HC0_1.out); rintro e w40 ⟨rfl, hb⟩; refine ⟨_, rfl, ?_⟩; replace BK265 := za_ BK265 hb; replace BK266 := za_ BK266 hb; replace BK267 := za_ BK267 hb; replace HB := Aside0.mk (below_step (zw3_ HB GE265 GE266 GE267) hb); (try clear hb)))
   go_meet
   case rel => exact ⟨_, (true), z1_, H', ⟨by first | omega | exact Nat.le_refl _⟩, ⟨zb_ BK265⟩, ⟨zb_ BK266⟩, ⟨zb_ BK267⟩, ⟨zw3_ HB GE265 GE266 GE267⟩⟩
  subst c10
  have H1 := H
  rw [if_pos rfl] at H1
  clear H
  have H := H1
  clear H1
  replace H := Option.bind_eq_some_iff.mp H
  obtain ⟨t269, A110, H⟩ := H
  (try dsimp only at H)
  have A11 := Aside0.mk A110
  clear A110
  by_cases c12 : t269 = true
  rotate_left
  ·replace c12 := Bool.eq_false_iff.mpr c12
   subst c12
   have H1 : (conv_BackIn.j0 k a2 a3 true l0_0 l0_1 l1_0 l1_1) = some (r1, r2, r3) := by rw [if_neg (show ¬ (false = true) by decide)] at H; exact H
   clear H
   have H := H1
   clear H1
   have H' := Aside0.mk H
   clear H
   have hnb30 := NB265_266.out
   have hnc30 := NB266_265.out
   have hnb31 := NB265_267.out
   have hnc31 := NB267_265.out
   have hcz32_0 := zx_ (v := .slice A0_0 l0_0.length c0_0) BK265 0
   have hcz32_1 := zx_ (v := .slice A0_1 l0_1.length c0_1) BK265 1
   have hfz32_0 := blk_frozen BK265.out 0
   have hfz32_1 := blk_frozen BK265.out 1
   go_wp2_with (first | ((with_reducible refine gate_callee (f := 26) rfl ?_); refine zg_ (some 25) Try.func26 #[.agg #[.slice A0_0 l0_0.length c0_0, .slice A0_1 l0_1.length c0_1]] (h := ?_); (with_reducible refine (tens_Good.calls k _ _ l0_0 _ _ l0_1 true _ ?side1 ?side2 ?side3 ?side4 A9.out).mono ?_); (case side1 => exact zk_ (Kd.C_below HR0_0.out HB.out)); (case side2 => exact HC0_0.out); (case side3 => exact zk_ (Kd.C_below HR0_1.out HB.out)); (case side4 => exact HC0_1.out); rintro e w33 ⟨rfl, hb⟩; refine ⟨_, rfl, ?_⟩; replace BK265 := za_ BK265 hb; replace BK266 := za_ BK266 hb; replace BK267 := za_ BK267 hb; replace HB := Aside0.mk (below_step (zw3_ HB GE265 GE266 GE267) hb); (try clear hb); have hnb34 := NB266_267.out; have hnc34 := NB267_266.out; have hcz35_0 := zx_ (v := .slice A1_0 l1_0.length c1_0) BK266 0; have hcz35_1 := zx_ (v := .slice A1_1 l1_1.length c1_1) BK266 1; have hfz35_0 := blk_frozen BK266.out 0; have hfz35_1 := blk_frozen BK266.out 1) | (go_at_call 26; (with_reducible refine (tens_Good.calls k _ _ l1_0 _ _ l1_1 false _ ?side1 ?side2 ?side3 ?side4 A11.out).mono ?_); (case side1 => exact zk_ (Kd.C_below HR1_0.out HB.out)); (case side2 => exact HC1_0.out); (case side3 => exact zk_ (Kd.C_below HR1_1.out HB.out)); (case side4 => exact HC1_1.out); rintro e w36 ⟨rfl, hb⟩; replace BK265 := za_ BK265 hb; replace BK266 := za_ BK266 hb; replace BK267 := za_ BK267 hb; replace HB := Aside0.mk (below_step (zw3_ HB GE265 GE266 GE267) hb); (try clear hb)))
   go_meet
   case rel => exact ⟨_, (true), z1_, H', ⟨by first | omega | exact Nat.le_refl _⟩, ⟨zb_ BK265⟩, ⟨zb_ BK266⟩, ⟨zb_ BK267⟩, ⟨zw3_ HB GE265 GE266 GE267⟩⟩
  subst c12
  have H1 := H
  rw [if_pos rfl] at H1
  clear H
  have H := H1
  clear H1
  replace H := Option.bind_eq_some_iff.mp H
  obtain ⟨t270, A130, H⟩ := H
  (try dsimp only at H)
  have A13 := Aside0.mk A130
  clear A130
  by_cases c14 : t270 = true
  rotate_left
  ·replace c14 := Bool.eq_false_iff.mpr c14
   subst c14
   have H1 : (conv_BackIn.j0 k a2 a3 true l0_0 l0_1 l1_0 l1_1) = some (r1, r2, r3) := by rw [if_neg (show ¬ (false = true) by decide)] at H; exact H
   clear H
   have H := H1
   clear H1
   have H' := Aside0.mk H
   clear H
   have hnb23 := NB265_266.out
   have hnc23 := NB266_265.out
   have hnb24 := NB265_267.out
   have hnc24 := NB267_265.out
   have hcz25_0 := zx_ (v := .slice A0_0 l0_0.length c0_0) BK265 0
   have hcz25_1 := zx_ (v := .slice A0_1 l0_1.length c0_1) BK265 1
   have hfz25_0 := blk_frozen BK265.out 0
   have hfz25_1 := blk_frozen BK265.out 1
   go_wp2_with (first | ((with_reducible refine gate_callee (f := 26) rfl ?_); refine zg_ (some 25) Try.func26 #[.agg #[.slice A0_0 l0_0.length c0_0, .slice A0_1 l0_1.length c0_1]] (h := ?_); (with_reducible refine (tens_Good.calls k _ _ l0_0 _ _ l0_1 true _ ?side1 ?side2 ?side3 ?side4 A9.out).mono ?_); (case side1 => exact zk_ (Kd.C_below HR0_0.out HB.out)); (case side2 => exact HC0_0.out); (case side3 => exact zk_ (Kd.C_below HR0_1.out HB.out)); (case side4 => exact HC0_1.out); rintro e w26 ⟨rfl, hb⟩; refine ⟨_, rfl, ?_⟩; replace BK265 := za_ BK265 hb; replace BK266 := za_ BK266 hb; replace BK267 := za_ BK267 hb; replace HB := Aside0.mk (below_step (zw3_ HB GE265 GE266 GE267) hb); (try clear hb); have hnb27 := NB266_267.out; have hnc27 := NB267_266.out; have hcz28_0 := zx_ (v := .slice A1_0 l1_0.length c1_0) BK266 0; have hcz28_1 := zx_ (v := .slice A1_1 l1_1.length c1_1) BK266 1; have hfz28_0 := blk_frozen BK266.out 0; have hfz28_1 := blk_frozen BK266.out 1) | (go_at_call 26; (with_reducible refine (tens_Good.calls k _ _ l1_0 _ _ l1_1 true _ ?side1 ?side2 ?side3 ?side4 A11.out).mono ?_); (case side1 => exact zk_ (Kd.C_below HR1_0.out HB.out)); (case side2 => exact HC1_0.out); (case side3 => exact zk_ (Kd.C_below HR1_1.out HB.out)); (case side4 => exact HC1_1.out); rintro e w29 ⟨rfl, hb⟩; replace BK265 := za_ BK265 hb; replace BK266 := za_ BK266 hb; replace BK267 := za_ BK267 hb; replace HB := Aside0.mk (below_step (zw3_ HB GE265 GE266 GE267) hb); (try clear hb)) | (go_at_call 27; (with_reducible refine (conv_stepGood.calls a2 false _ A13.out).mono ?_); rintro e w' ⟨rfl, ⟨nd, rfl⟩⟩))
   go_meet
   case rel => exact ⟨_, (true), z1_, H', ⟨by first | omega | exact Nat.le_refl _⟩, ⟨zb_ BK265⟩, ⟨zb_ BK266⟩, ⟨zb_ BK267⟩, ⟨zw3_ HB GE265 GE266 GE267⟩⟩
  subst c14
  have H1 := H
  rw [if_pos rfl] at H1
  clear H
  have H := H1
  clear H1
  replace H := Option.bind_eq_some_iff.mp H
  obtain ⟨t271, A150, H⟩ := H
  replace H : (conv_BackIn.j0 k a2 a3 (!t271) l0_0 l0_1 l1_0 l1_1) = some (r1, r2, r3) := H
  have A15 := Aside0.mk A150
  clear A150
  have H' := Aside0.mk H
  clear H
  have hnb16 := NB265_266.out
  have hnc16 := NB266_265.out
  have hnb17 := NB265_267.out
  have hnc17 := NB267_265.out
  have hcz18_0 := zx_ (v := .slice A0_0 l0_0.length c0_0) BK265 0
  have hcz18_1 := zx_ (v := .slice A0_1 l0_1.length c0_1) BK265 1
  have hfz18_0 := blk_frozen BK265.out 0
  have hfz18_1 := blk_frozen BK265.out 1
  go_wp2_with (first | ((with_reducible refine gate_callee (f := 26) rfl ?_); refine zg_ (some 25) Try.func26 #[.agg #[.slice A0_0 l0_0.length c0_0, .slice A0_1 l0_1.length c0_1]] (h := ?_); (with_reducible refine (tens_Good.calls k _ _ l0_0 _ _ l0_1 true _ ?side1 ?side2 ?side3 ?side4 A9.out).mono ?_); (case side1 => exact zk_ (Kd.C_below HR0_0.out HB.out)); (case side2 => exact HC0_0.out); (case side3 => exact zk_ (Kd.C_below HR0_1.out HB.out)); (case side4 => exact HC0_1.out); rintro e w19 ⟨rfl, hb⟩; refine ⟨_, rfl, ?_⟩; replace BK265 := za_ BK265 hb; replace BK266 := za_ BK266 hb; replace BK267 := za_ BK267 hb; replace HB := Aside0.mk (below_step (zw3_ HB GE265 GE266 GE267) hb); (try clear hb); have hnb20 := NB266_267.out; have hnc20 := NB267_266.out; have hcz21_0 := zx_ (v := .slice A1_0 l1_0.length c1_0) BK266 0; have hcz21_1 := zx_ (v := .slice A1_1 l1_1.length c1_1) BK266 1; have hfz21_0 := blk_frozen BK266.out 0; have hfz21_1 := blk_frozen BK266.out 1) | (go_at_call 26; (with_reducible refine (tens_Good.calls k _ _ l1_0 _ _ l1_1 true _ ?side1 ?side2 ?side3 ?side4 A11.out).mono ?_); (case side1 => exact zk_ (Kd.C_below HR1_0.out HB.out)); (case side2 => exact HC1_0.out); (case side3 => exact zk_ (Kd.C_below HR1_1.out HB.out)); (case side4 => exact HC1_1.out); rintro e w22 ⟨rfl, hb⟩; replace BK265 := za_ BK265 hb; replace BK266 := za_ BK266 hb; replace BK267 := za_ BK267 hb; replace HB := Aside0.mk (below_step (zw3_ HB GE265 GE266 GE267) hb); (try clear hb)) | (go_at_call 27; (with_reducible refine (conv_stepGood.calls a2 true _ A13.out).mono ?_); rintro e w' ⟨rfl, ⟨nd, rfl⟩⟩) | (go_at_call 39; (with_reducible refine (conv_sized.calls a3 t271 _ A15.out).mono ?_); rintro e w' ⟨rfl, ⟨nd, rfl⟩⟩))
  go_meet
  case rel => exact ⟨_, (!t271), z1_, H', ⟨by first | omega | exact Nat.le_refl _⟩, ⟨zb_ BK265⟩, ⟨zb_ BK266⟩, ⟨zb_ BK267⟩, ⟨zw3_ HB GE265 GE266 GE267⟩⟩
 case rest =>
  clear HC5
  try clear c1
  try clear c2
  try clear p2
  try clear c3
  try clear c10
  try clear c12
  try clear c14
  try clear c16
  try clear c17
  try clear c20
  try clear c22
  try clear c23
  try clear c24
  try clear c26
  try clear c27
  try clear c30
  try clear c31
  try clear c34
  try clear c37
  try clear c38
  try clear hcz18_0
  try clear hcz18_1
  try clear hcz21_0
  try clear hcz21_1
  try clear hcz25_0
  try clear hcz25_1
  try clear hcz28_0
  try clear hcz28_1
  try clear hcz32_0
  try clear hcz32_1
  try clear hcz35_0
  try clear hcz35_1
  try clear hcz39_0
  try clear hcz39_1
  try clear hfz18_0
  try clear hfz18_1
  try clear hfz21_0
  try clear hfz21_1
  try clear hfz25_0
  try clear hfz25_1
  try clear hfz28_0
  try clear hfz28_1
  try clear hfz32_0
  try clear hfz32_1
  try clear hfz35_0
  try clear hfz35_1
  try clear hfz39_0
  try clear hfz39_1
  obtain ⟨kq, x23_4, rfl, HA, HJ4, BK265, BK266, BK267, HB⟩ := hcut
  cases kq with
  | zero => exact absurd HA.out (by simp [conv_BackIn.j0])
  | succ kj4 =>
   have H := HA.out
   clear HA
   simp only [conv_BackIn.j0] at H
   by_cases c41 : x23_4 = true
   ·subst c41
    have H1 : (some (([] : List Int), ([] : List Int), 1)) = some (r1, r2, r3) := by rw [if_pos rfl] at H; exact H
    clear H
    have H := H1
    clear H1
    simp only [Option.some.injEq, Prod.mk.injEq] at H
    obtain ⟨rfl, rfl, rfl⟩ := H
    have hnb42 := NB267_265.out
    have hnc42 := NB265_267.out
    have hnb43 := NB267_266.out
    have hnc43 := NB266_267.out
    have hcz44_0 := zx_ (v := .slice none 0 0) BK267 0
    have hcz44_1 := zx_ (v := .slice none 0 0) BK267 1
    have hfz44_0 := blk_frozen BK267.out 0
    have hfz44_1 := blk_frozen BK267.out 1
    go_wp2
    refine bodyPost_ret (results_ct rfl _ _ gb267 25 #[.slice none 0 0, .slice none 0 0] (0, 0) _ rfl (zo2_ BK267) Try.underlying25 rfl (by kernel_rfl)) rfl ?_
    exact ⟨_, _, z0_, z2_, z2_, zw3_ HB GE265 GE266 GE267⟩
   replace c41 := Bool.eq_false_iff.mpr c41
   subst c41
   have H1 := H
   rw [if_neg (show ¬ (false = true) by decide)] at H1
   clear H
   have H := H1
   clear H1
   by_cases c45 : (l0_0.length : Int) = 2
   rotate_left
   ·rw [if_neg c45] at H
    have c45b0 : ((l0_0.length : Int) == 2) = false := beq_eq_false_iff_ne.mpr c45
    have c45b1 : ((l0_0.length : Int) != 2) = true := bne_iff_ne.mpr c45
    simp only [Option.some.injEq, Prod.mk.injEq] at H
    obtain ⟨rfl, rfl, rfl⟩ := H
    try go_wp2
    replace BK265 := Aside0.mk (blk_drew BK265.out)
    replace BK266 := Aside0.mk (blk_drew BK266.out)
    replace BK267 := Aside0.mk (blk_drew BK267.out)
    replace HB := Aside0.mk (below_drew1 HB.out)
    refine start_ (n := 36) (S := fun w' => w'.cell? ⟨gb265, 0, none⟩ = some (.slice A0_0 l0_0.length c0_0) ∧ w'.cell? ⟨gb265, 1, none⟩ = some (.slice A0_1 l0_1.length c0_1)) (ds := []) #[false, false, false, false, false, false, false, false, false, false, false, false, false, false, false, false, false, false, false, false, false, false, false, false, false, false, false, false, false, false, false, false, false, false, false, false] (by kernel_rfl) rfl rfl ⟨(blk_cell BK265.out 0).trans rfl, (blk_cell BK265.out 1).trans rfl⟩ (fun hHeld => ?_); refine with_tabW conv_BackIn.tab3 conv_BackIn.bits3 (fun HT_ HW_ => ?_)
    generalize wc.drew = w143 at BK265 BK266 BK267 HB hHeld ⊢
    refine yp_ ?_ 0 44
    refine yt2_ ?_ 1 45
    refine yp_ ?_ 2 46
    refine yp_ ?_ 3 47
    refine yp_ ?_ 4 48
    refine yu_ ?_ 5 49
    refine yu_ ?_ 6 50
    refine yu_ ?_ 7 51
    refine yu_ ?_ 8 52
    refine yp_ ?_ 9 53
    refine yp_ ?_ 10 54
    refine yu_ ?_ 11 55
    refine yu_ ?_ 12 56
    refine yu_ ?_ 13 57
    refine yu_ ?_ 14 58
    refine yu_ ?_ 15 59
    refine yu_ ?_ 16 60
    refine yu_ ?_ 17 61
    refine yu_ ?_ 18 62
    refine yu_ ?_ 19 63
    refine yp_ ?_ 20 64
    refine yp_ ?_ 21 65
    refine yu_ ?_ 22 66
    refine yu_ ?_ 23 67
    refine yu_ ?_ 24 68
    refine yu_ ?_ 25 69
    refine yu_ ?_ 26 70
    refine yu_ ?_ 27 71
    refine yu_ ?_ 28 72
    refine yu_ ?_ 29 73
    refine yu_ ?_ 30 74
    refine yu_ ?_ 31 75
    refine yu_ ?_ 32 76
    refine yu_ ?_ 33 77
    refine yp_ ?_ 34 78
    refine yp_ ?_ 35 43
    refine done_ (done_of HT_.out (by kernel_rfl)) ?_
    have hnb144 := NB267_265.out
    have hnc144 := NB265_267.out
    have hnb145 := NB267_266.out
    have hnc145 := NB266_267.out
    have hcz146_0 := zx_ (v := .slice none 0 0) BK267 0
    have hcz146_1 := zx_ (v := .slice none 0 0) BK267 1
    have hfz146_0 := blk_frozen BK267.out 0
    have hfz146_1 := blk_frozen BK267.out 1
    try go_wp2
    refine bodyPost_ret (results_ct rfl _ _ gb267 25 #[.slice none 0 0, .slice none 0 0] (0, 0) _ rfl (zo2_ BK267) Try.underlying25 rfl (by kernel_rfl)) rfl ?_
    exact ⟨_, _, z0_, z2_, z2_, zw3_ HB GE265 GE266 GE267⟩
   rw [if_pos c45] at H
   have c45b0 : ((l0_0.length : Int) == 2) = true := beq_iff_eq.mpr c45
   have c45b1 : ((l0_0.length : Int) != 2) = false := bne_eq_false_iff_eq.mpr c45
   clear c45
   by_cases c46 : (l1_0.length : Int) = 3
   rotate_left
   ·rw [if_neg c46] at H
    have c46b0 : ((l1_0.length : Int) == 3) = false := beq_eq_false_iff_ne.mpr c46
    have c46b1 : ((l1_0.length : Int) != 3) = true := bne_iff_ne.mpr c46
    simp only [Option.some.injEq, Prod.mk.injEq] at H
    obtain ⟨rfl, rfl, rfl⟩ := H
    try go_wp2
    replace BK265 := Aside0.mk (blk_drew BK265.out)
    replace BK266 := Aside0.mk (blk_drew BK266.out)
    replace BK267 := Aside0.mk (blk_drew BK267.out)
    replace HB := Aside0.mk (below_drew1 HB.out)
    refine start_ (n := 36) (S := fun w' => w'.cell? ⟨gb265, 0, none⟩ = some (.slice A0_0 l0_0.length c0_0) ∧ w'.cell? ⟨gb265, 1, none⟩ = some (.slice A0_1 l0_1.length c0_1) ∧ w'.cell? ⟨gb266, 0, none⟩ = some (.slice A1_0 l1_0.length c1_0) ∧ w'.cell? ⟨gb266, 1, none⟩ = some (.slice A1_1 l1_1.length c1_1)) (ds := []) #[false, false, false, false, false, false, false, false, false, false, false, false, false, false, false, false, false, false, false, false, false, false, false, false, false, false, false, false, false, false, false, false, false, false, false, false] (by kernel_rfl) rfl rfl ⟨(blk_cell BK265.out 0).trans rfl, (blk_cell BK265.out 1).trans rfl, (blk_cell BK266.out 0).trans rfl, (blk_cell BK266.out 1).trans rfl⟩ (fun hHeld => ?_); refine with_tabW conv_BackIn.tab3 conv_BackIn.bits3 (fun HT_ HW_ => ?_)
    generalize wc.drew = w139 at BK265 BK266 BK267 HB hHeld ⊢
    refine yp_ ?_ 0 44
    refine yt4_ ?_ 1 45
    refine yp_ ?_ 2 46
    refine yp_ ?_ 3 47
    refine yp_ ?_ 4 48
    refine yp_ ?_ 5 49
    refine yt4_ ?_ 6 50
    refine yp_ ?_ 7 51
    refine yp_ ?_ 8 52
    refine yp_ ?_ 9 53
    refine yp_ ?_ 10 54
    refine yu_ ?_ 11 55
    refine yu_ ?_ 12 56
    refine yu_ ?_ 13 57
    refine yu_ ?_ 14 58
    refine yu_ ?_ 15 59
    refine yu_ ?_ 16 60
    refine yu_ ?_ 17 61
    refine yu_ ?_ 18 62
    refine yu_ ?_ 19 63
    refine yp_ ?_ 20 64
    refine yp_ ?_ 21 65
    refine yu_ ?_ 22 66
    refine yu_ ?_ 23 67
    refine yu_ ?_ 24 68
    refine yu_ ?_ 25 69
    refine yu_ ?_ 26 70
    refine yu_ ?_ 27 71
    refine yu_ ?_ 28 72
    refine yu_ ?_ 29 73
    refine yu_ ?_ 30 74
    refine yu_ ?_ 31 75
    refine yu_ ?_ 32 76
    refine yu_ ?_ 33 77
    refine yp_ ?_ 34 78
    refine yp_ ?_ 35 43
    refine done_ (done_of HT_.out (by kernel_rfl)) ?_
    have hnb140 := NB267_265.out
    have hnc140 := NB265_267.out
    have hnb141 := NB267_266.out
    have hnc141 := NB266_267.out
    have hcz142_0 := zx_ (v := .slice none 0 0) BK267 0
    have hcz142_1 := zx_ (v := .slice none 0 0) BK267 1
    have hfz142_0 := blk_frozen BK267.out 0
    have hfz142_1 := blk_frozen BK267.out 1
    try go_wp2
    refine bodyPost_ret (results_ct rfl _ _ gb267 25 #[.slice none 0 0, .slice none 0 0] (0, 0) _ rfl (zo2_ BK267) Try.underlying25 rfl (by kernel_rfl)) rfl ?_
    exact ⟨_, _, z0_, z2_, z2_, zw3_ HB GE265 GE266 GE267⟩
   rw [if_pos c46] at H
   have c46b0 : ((l1_0.length : Int) == 3) = true := beq_iff_eq.mpr c46
   have c46b1 : ((l1_0.length : Int) != 3) = false := bne_eq_false_iff_eq.mpr c46
   clear c46
   by_cases c47 : 0 < (l1_0.length : Int)
   rotate_left
   ·rw [if_neg c47] at H
    exact absurd H (by simp)
   rw [if_pos c47] at H
   have c47b0 : decide (0 < (l1_0.length : Int)) = true := decide_eq_true c47
   have c47b1 : decide (0 < l1_0.length) = true := decide_eq_true (by omega)
   clear c47
   by_cases c48 : 0 < (l0_0.length : Int)
   rotate_left
   ·rw [if_neg c48] at H
    exact absurd H (by simp)
   rw [if_pos c48] at H
   have c48b0 : decide (0 < (l0_0.length : Int)) = true := decide_eq_true c48
   have c48b1 : decide (0 < l0_0.length) = true := decide_eq_true (by omega)
   clear c48
   by_cases c49 : (rd l1_0 0) = (rd l0_0 0)
   rotate_left
   ·rw [if_neg c49] at H
    have c49b0 : ((rd l1_0 0) == (rd l0_0 0)) = false := beq_eq_false_iff_ne.mpr c49
    have c49b1 : ((rd l1_0 0) != (rd l0_0 0)) = true := bne_iff_ne.mpr c49
    simp only [Option.some.injEq, Prod.mk.injEq] at H
    obtain ⟨rfl, rfl, rfl⟩ := H
    try go_wp2
    replace BK265 := Aside0.mk (blk_drew BK265.out)
    replace BK266 := Aside0.mk (blk_drew BK266.out)
    replace BK267 := Aside0.mk (blk_drew BK267.out)
    replace HB := Aside0.mk (below_drew1 HB.out)
    have p272 : 0 ≤ (0 : Int) := (by omega)
    have q272 : 0 < (l1_0.length : Int) := of_decide_eq_true (by first | (with_reducible assumption) | assumption)
    obtain ⟨ad272, e272, hx272_0⟩ := Kd.at_int HR1_0.out 0 p272 q272
    have hw272_0 := hx272_0
    (try rw [show ((0 : Int)).toNat = 0 from rfl] at hw272_0)
    (try rw [show 0 * 1 = 0 from rfl] at hw272_0)
    (try rw [Addr.add_zero'] at hw272_0)
    cases e272
    have qi272 : (0 < l1_0.length) = True := eq_true (by omega)
    (try rw [show ((0 : Int)).toNat = 0 from rfl] at hx272_0)
    (try rw [Addr.add_zero'] at hx272_0)
    replace hx272_0 := (HB.out.cell (World.block_lt_of_cell? w _ hx272_0)).trans hx272_0
    replace p272 := eq_true p272
    replace q272 := eq_true q272
    have p273 : 0 ≤ (0 : Int) := (by omega)
    have q273 : 0 < (l0_0.length : Int) := of_decide_eq_true (by first | (with_reducible assumption) | assumption)
    obtain ⟨ad273, e273, hx273_0⟩ := Kd.at_int HR0_0.out 0 p273 q273
    have hw273_0 := hx273_0
    (try rw [show ((0 : Int)).toNat = 0 from rfl] at hw273_0)
    (try rw [show 0 * 1 = 0 from rfl] at hw273_0)
    (try rw [Addr.add_zero'] at hw273_0)
    cases e273
    have qi273 : (0 < l0_0.length) = True := eq_true (by omega)
    (try rw [show ((0 : Int)).toNat = 0 from rfl] at hx273_0)
    (try rw [Addr.add_zero'] at hx273_0)
    replace hx273_0 := (HB.out.cell (World.block_lt_of_cell? w _ hx273_0)).trans hx273_0
    replace p273 := eq_true p273
    replace q273 := eq_true q273
    refine start_ (n := 36) (S := fun w' => w'.cell? ⟨gb265, 0, none⟩ = some (.slice (some ad273) l0_0.length c0_0) ∧ w'.cell? ⟨gb265, 1, none⟩ = some (.slice A0_1 l0_1.length c0_1) ∧ w'.cell? ⟨gb266, 0, none⟩ = some (.slice (some ad272) l1_0.length c1_0) ∧ w'.cell? ⟨gb266, 1, none⟩ = some (.slice A1_1 l1_1.length c1_1) ∧ w'.cell? ad272 = some (.int .i64 (rd l1_0 0)) ∧ w'.cell? ad273 = some (.int .i64 (rd l0_0 0))) (ds := []) #[false, false, false, false, false, false, false, false, false, false, false, false, false, false, false, false, false, false, false, false, false, false, false, false, false, false, false, false, false, false, false, false, false, false, false, false] (by kernel_rfl) rfl rfl ⟨(blk_cell BK265.out 0).trans rfl, (blk_cell BK265.out 1).trans rfl, (blk_cell BK266.out 0).trans rfl, (blk_cell BK266.out 1).trans rfl, ((HB.out.cell (World.block_lt_of_cell? w _ hw272_0)).trans hw272_0), ((HB.out.cell (World.block_lt_of_cell? w _ hw273_0)).trans hw273_0)⟩ (fun hHeld => ?_); refine with_tabW conv_BackIn.tab3 conv_BackIn.bits3 (fun HT_ HW_ => ?_)
    generalize wc.drew = w135 at BK265 BK266 BK267 HB hx272_0 hx273_0 hHeld ⊢
    refine yp_ ?_ 0 44
    refine yt6_ ?_ 1 45
    refine yp_ ?_ 2 46
    refine yp_ ?_ 3 47
    refine yp_ ?_ 4 48
    refine yp_ ?_ 5 49
    refine yt6_ ?_ 6 50
    refine yp_ ?_ 7 51
    refine yp_ ?_ 8 52
    refine yp_ ?_ 9 53
    refine yp_ ?_ 10 54
    refine yp_ ?_ 11 55
    refine yp_ ?_ 15 59
    refine yt6_ ?_ 12 56
    refine yp_ ?_ 13 57
    refine yt6_ ?_ 14 58
    refine yt6_ ?_ 16 60
    refine yp_ ?_ 17 61
    refine yt6_ ?_ 18 62
    refine yp_ ?_ 19 63
    refine yp_ ?_ 20 64
    refine yp_ ?_ 21 65
    refine yu_ ?_ 22 66
    refine yu_ ?_ 23 67
    refine yu_ ?_ 24 68
    refine yu_ ?_ 25 69
    refine yu_ ?_ 26 70
    refine yu_ ?_ 27 71
    refine yu_ ?_ 28 72
    refine yu_ ?_ 29 73
    refine yu_ ?_ 30 74
    refine yu_ ?_ 31 75
    refine yu_ ?_ 32 76
    refine yu_ ?_ 33 77
    refine yp_ ?_ 34 78
    refine yp_ ?_ 35 43
    refine done_ (done_of HT_.out (by kernel_rfl)) ?_
    have hnb136 := NB267_265.out
    have hnc136 := NB265_267.out
    have hnb137 := NB267_266.out
    have hnc137 := NB266_267.out
    have hcz138_0 := zx_ (v := .slice none 0 0) BK267 0
    have hcz138_1 := zx_ (v := .slice none 0 0) BK267 1
    have hfz138_0 := blk_frozen BK267.out 0
    have hfz138_1 := blk_frozen BK267.out 1
    try go_wp2
    refine bodyPost_ret (results_ct rfl _ _ gb267 25 #[.slice none 0 0, .slice none 0 0] (0, 0) _ rfl (zo2_ BK267) Try.underlying25 rfl (by kernel_rfl)) rfl ?_
    exact ⟨_, _, z0_, z2_, z2_, zw3_ HB GE265 GE266 GE267⟩
   rw [if_pos c49] at H
   have c49b0 : ((rd l1_0 0) == (rd l0_0 0)) = true := beq_iff_eq.mpr c49
   have c49b1 : ((rd l1_0 0) != (rd l0_0 0)) = false := bne_eq_false_iff_eq.mpr c49
   clear c49
   by_cases c50 : 2 < (l1_0.length : Int)
   rotate_left
   ·rw [if_neg c50] at H
    exact absurd H (by simp)
   rw [if_pos c50] at H
   have c50b0 : decide (2 < (l1_0.length : Int)) = true := decide_eq_true c50
   have c50b1 : decide (2 < l1_0.length) = true := decide_eq_true (by omega)
   clear c50
   replace H := Option.bind_eq_some_iff.mp H
   obtain ⟨t275, A510, H⟩ := H
   (try dsimp only at H)
   have A51 := Aside0.mk A510
   clear A510
   by_cases c52 : 1 < (l0_0.length : Int)
   rotate_left
   ·rw [if_neg c52] at H
    exact absurd H (by simp)
   rw [if_pos c52] at H
   have c52b0 : decide (1 < (l0_0.length : Int)) = true := decide_eq_true c52
   have c52b1 : decide (1 < l0_0.length) = true := decide_eq_true (by omega)
   clear c52
   by_cases c53 : t275 = (rd l0_0 1)
   rotate_left
   ·rw [if_neg c53] at H
    have c53b0 : (t275 == (rd l0_0 1)) = false := beq_eq_false_iff_ne.mpr c53
    have c53b1 : (t275 != (rd l0_0 1)) = true := bne_iff_ne.mpr c53
    simp only [Option.some.injEq, Prod.mk.injEq] at H
    obtain ⟨rfl, rfl, rfl⟩ := H
    try go_wp2
    replace BK265 := Aside0.mk (blk_drew BK265.out)
    replace BK266 := Aside0.mk (blk_drew BK266.out)
    replace BK267 := Aside0.mk (blk_drew BK267.out)
    replace HB := Aside0.mk (below_drew1 HB.out)
    have p272 : 0 ≤ (0 : Int) := (by omega)
    have q272 : 0 < (l1_0.length : Int) := of_decide_eq_true (by first | (with_reducible assumption) | assumption)
    obtain ⟨ad272, e272, hx272_0⟩ := Kd.at_int HR1_0.out 0 p272 q272
    have hw272_0 := hx272_0
    (try rw [show ((0 : Int)).toNat = 0 from rfl] at hw272_0)
    (try rw [show 0 * 1 = 0 from rfl] at hw272_0)
    (try rw [Addr.add_zero'] at hw272_0)
    cases e272
    have qi272 : (0 < l1_0.length) = True := eq_true (by omega)
    (try rw [show ((0 : Int)).toNat = 0 from rfl] at hx272_0)
    (try rw [Addr.add_zero'] at hx272_0)
    replace hx272_0 := (HB.out.cell (World.block_lt_of_cell? w _ hx272_0)).trans hx272_0
    replace p272 := eq_true p272
    replace q272 := eq_true q272
    have p273 : 0 ≤ (0 : Int) := (by omega)
    have q273 : 0 < (l0_0.length : Int) := of_decide_eq_true (by first | (with_reducible assumption) | assumption)
    obtain ⟨ad273, e273, hx273_0⟩ := Kd.at_int HR0_0.out 0 p273 q273
    have hw273_0 := hx273_0
    (try rw [show ((0 : Int)).toNat = 0 from rfl] at hw273_0)
    (try rw [show 0 * 1 = 0 from rfl] at hw273_0)
    (try rw [Addr.add_zero'] at hw273_0)
    cases e273
    have qi273 : (0 < l0_0.length) = True := eq_true (by omega)
    (try rw [show ((0 : Int)).toNat = 0 from rfl] at hx273_0)
    (try rw [Addr.add_zero'] at hx273_0)
    replace hx273_0 := (HB.out.cell (World.block_lt_of_cell? w _ hx273_0)).trans hx273_0
    replace p273 := eq_true p273
    replace q273 := eq_true q273
    have p274 : 0 ≤ (2 : Int) := (by omega)
    have q274 : 2 < (l1_0.length : Int) := of_decide_eq_true (by first | (with_reducible assumption) | assumption)
    obtain ⟨ad274, e274, hx274_0⟩ := Kd.at_int HR1_0.out 2 p274 q274
    have hw274_0 := hx274_0
    (try rw [show ((2 : Int)).toNat = 2 from rfl] at hw274_0)
    (try rw [show 2 * 1 = 2 from rfl] at hw274_0)
    (try simp only [Nat.reduceMul, Nat.reduceEqDiff, Go.Addr.add, ↓reduceIte] at hw274_0)
    obtain rfl : ad272 = ad274 := (by injection e274)
    (try simp only [show (2 : Int).toNat = 2 from rfl, Nat.reduceMul, Nat.reduceEqDiff, Go.Addr.add, ↓reduceIte] at hx274_0)
    have qi274 : (2 < l1_0.length) = True := eq_true (by omega)
    (try rw [show ((2 : Int)).toNat = 2 from rfl] at hx274_0)
    replace hx274_0 := (HB.out.cell (World.block_lt_of_cell? w _ hx274_0)).trans hx274_0
    replace p274 := eq_true p274
    replace q274 := eq_true q274
    have p276 : 0 ≤ (1 : Int) := (by omega)
    have q276 : 1 < (l0_0.length : Int) := of_decide_eq_true (by first | (with_reducible assumption) | assumption)
    obtain ⟨ad276, e276, hx276_0⟩ := Kd.at_int HR0_0.out 1 p276 q276
    have hw276_0 := hx276_0
    (try rw [show ((1 : Int)).toNat = 1 from rfl] at hw276_0)
    (try rw [show 1 * 1 = 1 from rfl] at hw276_0)
    (try simp only [Nat.reduceMul, Nat.reduceEqDiff, Go.Addr.add, ↓reduceIte] at hw276_0)
    obtain rfl : ad273 = ad276 := (by injection e276)
    (try simp only [show (1 : Int).toNat = 1 from rfl, Nat.reduceMul, Nat.reduceEqDiff, Go.Addr.add, ↓reduceIte] at hx276_0)
    have qi276 : (1 < l0_0.length) = True := eq_true (by omega)
    (try rw [show ((1 : Int)).toNat = 1 from rfl] at hx276_0)
    replace hx276_0 := (HB.out.cell (World.block_lt_of_cell? w _ hx276_0)).trans hx276_0
    replace p276 := eq_true p276
    replace q276 := eq_true q276
    refine start_ (n := 36) (S := fun w' => w'.cell? ⟨gb265, 0, none⟩ = some (.slice (some ad273) l0_0.length c0_0) ∧ w'.cell? ⟨gb265, 1, none⟩ = some (.slice A0_1 l0_1.length c0_1) ∧ w'.cell? ⟨gb266, 0, none⟩ = some (.slice (some ad272) l1_0.length c1_0) ∧ w'.cell? ⟨gb266, 1, none⟩ = some (.slice A1_1 l1_1.length c1_1) ∧ w'.cell? ad272 = some (.int .i64 (rd l1_0 0)) ∧ w'.cell? ad273 = some (.int .i64 (rd l0_0 0)) ∧ w'.cell? ⟨ad272.block, ad272.off + 2, none⟩ = some (.int .i64 (rd l1_0 2)) ∧ w'.cell? ⟨ad273.block, ad273.off + 1, none⟩ = some (.int .i64 (rd l0_0 1))) (ds := []) #[false, false, false, false, false, false, false, false, false, false, false, false, false, false, false, false, false, false, false, false, false, false, false, false, false, false, false, false, false, false, false, false, false, false, false, false] (by kernel_rfl) rfl rfl ⟨(blk_cell BK265.out 0).trans rfl, (blk_cell BK265.out 1).trans rfl, (blk_cell BK266.out 0).trans rfl, (blk_cell BK266.out 1).trans rfl, ((HB.out.cell (World.block_lt_of_cell? w _ hw272_0)).trans hw272_0), ((HB.out.cell (World.block_lt_of_cell? w _ hw273_0)).trans hw273_0), ((HB.out.cell (World.block_lt_of_cell? w _ hw274_0)).trans hw274_0), ((HB.out.cell (World.block_lt_of_cell? w _ hw276_0)).trans hw276_0)⟩ (fun hHeld => ?_); refine with_tabW conv_BackIn.tab3 conv_BackIn.bits3 (fun HT_ HW_ => ?_)
    generalize wc.drew = w131 at BK265 BK266 BK267 HB hx272_0 hx273_0 hx274_0 hx276_0 hHeld ⊢
    refine yp_ ?_ 0 44
    refine yt8_ ?_ 1 45
    refine yp_ ?_ 2 46
    refine yp_ ?_ 3 47
    refine yp_ ?_ 4 48
    refine yp_ ?_ 5 49
    refine yt8_ ?_ 6 50
    refine yp_ ?_ 7 51
    refine yp_ ?_ 8 52
    refine yp_ ?_ 9 53
    refine yp_ ?_ 10 54
    refine yp_ ?_ 11 55
    refine yp_ ?_ 15 59
    refine yt8_ ?_ 12 56
    refine yp_ ?_ 13 57
    refine yt8_ ?_ 14 58
    refine yt8_ ?_ 16 60
    refine yp_ ?_ 17 61
    refine yt8_ ?_ 18 62
    refine yp_ ?_ 19 63
    refine yp_ ?_ 20 64
    refine yp_ ?_ 21 65
    refine yp_ ?_ 22 66
    refine yp_ ?_ 23 67
    refine yp_ ?_ 27 71
    refine yp_ ?_ 29 73
    refine yt8_ ?_ 24 68
    refine yp_ ?_ 25 69
    refine yt8_ ?_ 26 70
    refine yt8_ ?_ 30 74
    refine yp_ ?_ 31 75
    refine yt8_ ?_ 32 76
    refine yo_ 28 (some 72) (fun K hK => ?_)
    refine yg_ Try.func28 #[.int .i64 a3, .int .i64 (rd l1_0 2), .int .i64 a2] ?_
    with_reducible refine (conv_windows.calls a3 (rd l1_0 2) a2 t275 _ A51.out).mono ?_
    rintro e w' ⟨rfl, ⟨nd, rfl⟩⟩
    refine ⟨_, rfl, ?_⟩
    refine hK.out _ _ ⟨(blk_cell BK265.out 0).trans rfl, (blk_cell BK265.out 1).trans rfl, (blk_cell BK266.out 0).trans rfl, (blk_cell BK266.out 1).trans rfl, ((HB.out.cell (World.block_lt_of_cell? w _ hw272_0)).trans hw272_0), ((HB.out.cell (World.block_lt_of_cell? w _ hw273_0)).trans hw273_0), ((HB.out.cell (World.block_lt_of_cell? w _ hw274_0)).trans hw274_0), ((HB.out.cell (World.block_lt_of_cell? w _ hw276_0)).trans hw276_0)⟩ (fun hHeld => ?_)
    clear hK K
    refine zq_ (some 72) (h := ?_)
    refine yp_ ?_ 33 77
    refine yp_ ?_ 34 78
    refine yp_ ?_ 35 43
    refine done_ (done_of HT_.out (by kernel_rfl)) ?_
    have hnb132 := NB267_265.out
    have hnc132 := NB265_267.out
    have hnb133 := NB267_266.out
    have hnc133 := NB266_267.out
    have hcz134_0 := zx_ (v := .slice none 0 0) BK267 0
    have hcz134_1 := zx_ (v := .slice none 0 0) BK267 1
    have hfz134_0 := blk_frozen BK267.out 0
    have hfz134_1 := blk_frozen BK267.out 1
    try go_wp2
    refine bodyPost_ret (results_ct rfl _ _ gb267 25 #[.slice none 0 0, .slice none 0 0] (0, 0) _ rfl (zo2_ BK267) Try.underlying25 rfl (by kernel_rfl)) rfl ?_
    exact ⟨_, _, z0_, z2_, z2_, zw3_ HB GE265 GE266 GE267⟩
   rw [if_pos c53] at H
   have c53b0 : (t275 == (rd l0_0 1)) = true := beq_iff_eq.mpr c53
   have c53b1 : (t275 != (rd l0_0 1)) = false := bne_eq_false_iff_eq.mpr c53
   clear c53
   by_cases c54 : 1 < (l1_0.length : Int)
   rotate_left
   ·rw [if_neg c54] at H
    exact absurd H (by simp)
   rw [if_pos c54] at H
   have c54b0 : decide (1 < (l1_0.length : Int)) = true := decide_eq_true c54
   have c54b1 : decide (1 < l1_0.length) = true := decide_eq_true (by omega)
   clear c54
   obtain ⟨y281, hy281⟩ : ∃ y_ : List Int, y_ = (([rd l1_0 1, a3] : List Int)) := ⟨_, rfl⟩
   replace H : ((conv_of.f kj4 y281).bind fun bt284 => (if bt284.2.2 = 0 then (conv_BackIn.l0 kj4 a2 a3 (rd l1_0 0) (rd l1_0 1) (rd l1_0 2) (rd l0_0 1) (bt284.2.1.length : Int) 0 l0_0 l0_1 l1_0 l1_1 bt284.1 bt284.2.1) else (some (([] : List Int), ([] : List Int), bt284.2.2)))) = some (r1, r2, r3) := by first | (rw [hy281]; with_reducible exact H) | (have H2_ := (Option.bind_some _ _).symm.trans H; rw [hy281]; with_reducible exact H2_) | (have H2_ := (Option.bind_some _ _).symm.trans H; with_reducible exact H2_) | with_reducible exact H | (rw [hy281]; exact H) | exact H
   have Ny281 := Aside0.mk hy281
   clear hy281
   replace H := Option.bind_eq_some_iff.mp H
   obtain ⟨⟨t284, t287, t290⟩, A550, H⟩ := H
   (try dsimp only at H)
   have A55 := Aside0.mk A550
   clear A550
   by_cases c56 : t290 = 0
   rotate_left
   ·rw [if_neg c56] at H
    have c56b0 : (t290 == 0) = false := beq_eq_false_iff_ne.mpr c56
    have c56b1 : (t290 != 0) = true := bne_iff_ne.mpr c56
    simp only [Option.some.injEq, Prod.mk.injEq] at H
    obtain ⟨rfl, rfl, rfl⟩ := H
    try go_wp2
    replace BK265 := Aside0.mk (blk_drew BK265.out)
    replace BK266 := Aside0.mk (blk_drew BK266.out)
    replace BK267 := Aside0.mk (blk_drew BK267.out)
    replace HB := Aside0.mk (below_drew1 HB.out)
    have p272 : 0 ≤ (0 : Int) := (by omega)
    have q272 : 0 < (l1_0.length : Int) := of_decide_eq_true (by first | (with_reducible assumption) | assumption)
    obtain ⟨ad272, e272, hx272_0⟩ := Kd.at_int HR1_0.out 0 p272 q272
    have hw272_0 := hx272_0
    (try rw [show ((0 : Int)).toNat = 0 from rfl] at hw272_0)
    (try rw [show 0 * 1 = 0 from rfl] at hw272_0)
    (try rw [Addr.add_zero'] at hw272_0)
    cases e272
    have qi272 : (0 < l1_0.length) = True := eq_true (by omega)
    (try rw [show ((0 : Int)).toNat = 0 from rfl] at hx272_0)
    (try rw [Addr.add_zero'] at hx272_0)
    replace hx272_0 := (HB.out.cell (World.block_lt_of_cell? w _ hx272_0)).trans hx272_0
    replace p272 := eq_true p272
    replace q272 := eq_true q272
    have p273 : 0 ≤ (0 : Int) := (by omega)
    have q273 : 0 < (l0_0.length : Int) := of_decide_eq_true (by first | (with_reducible assumption) | assumption)
    obtain ⟨ad273, e273, hx273_0⟩ := Kd.at_int HR0_0.out 0 p273 q273
    have hw273_0 := hx273_0
    (try rw [show ((0 : Int)).toNat = 0 from rfl] at hw273_0)
    (try rw [show 0 * 1 = 0 from rfl] at hw273_0)
    (try rw [Addr.add_zero'] at hw273_0)
    cases e273
    have qi273 : (0 < l0_0.length) = True := eq_true (by omega)
    (try rw [show ((0 : Int)).toNat = 0 from rfl] at hx273_0)
    (try rw [Addr.add_zero'] at hx273_0)
    replace hx273_0 := (HB.out.cell (World.block_lt_of_cell? w _ hx273_0)).trans hx273_0
    replace p273 := eq_true p273
    replace q273 := eq_true q273
    have p274 : 0 ≤ (2 : Int) := (by omega)
    have q274 : 2 < (l1_0.length : Int) := of_decide_eq_true (by first | (with_reducible assumption) | assumption)
    obtain ⟨ad274, e274, hx274_0⟩ := Kd.at_int HR1_0.out 2 p274 q274
    have hw274_0 := hx274_0
    (try rw [show ((2 : Int)).toNat = 2 from rfl] at hw274_0)
    (try rw [show 2 * 1 = 2 from rfl] at hw274_0)
    (try simp only [Nat.reduceMul, Nat.reduceEqDiff, Go.Addr.add, ↓reduceIte] at hw274_0)
    obtain rfl : ad272 = ad274 := (by injection e274)
    (try simp only [show (2 : Int).toNat = 2 from rfl, Nat.reduceMul, Nat.reduceEqDiff, Go.Addr.add, ↓reduceIte] at hx274_0)
    have qi274 : (2 < l1_0.length) = True := eq_true (by omega)
    (try rw [show ((2 : Int)).toNat = 2 from rfl] at hx274_0)
    replace hx274_0 := (HB.out.cell (World.block_lt_of_cell? w _ hx274_0)).trans hx274_0
    replace p274 := eq_true p274
    replace q274 := eq_true q274
    have p276 : 0 ≤ (1 : Int) := (by omega)
    have q276 : 1 < (l0_0.length : Int) := of_decide_eq_true (by first | (with_reducible assumption) | assumption)
    obtain ⟨ad276, e276, hx276_0⟩ := Kd.at_int HR0_0.out 1 p276 q276
    have hw276_0 := hx276_0
    (try rw [show ((1 : Int)).toNat = 1 from rfl] at hw276_0)
    (try rw [show 1 * 1 = 1 from rfl] at hw276_0)
    (try simp only [Nat.reduceMul, Nat.reduceEqDiff, Go.Addr.add, ↓reduceIte] at hw276_0)
    obtain rfl : ad273 = ad276 := (by injection e276)
    (try simp only [show (1 : Int).toNat = 1 from rfl, Nat.reduceMul, Nat.reduceEqDiff, Go.Addr.add, ↓reduceIte] at hx276_0)
    have qi276 : (1 < l0_0.length) = True := eq_true (by omega)
    (try rw [show ((1 : Int)).toNat = 1 from rfl] at hx276_0)
    replace hx276_0 := (HB.out.cell (World.block_lt_of_cell? w _ hx276_0)).trans hx276_0
    replace p276 := eq_true p276
    replace q276 := eq_true q276
    refine start_ (n := 36) (S := fun w' => w'.cell? ⟨gb265, 0, none⟩ = some (.slice (some ad273) l0_0.length c0_0) ∧ w'.cell? ⟨gb265, 1, none⟩ = some (.slice A0_1 l0_1.length c0_1) ∧ w'.cell? ⟨gb266, 0, none⟩ = some (.slice (some ad272) l1_0.length c1_0) ∧ w'.cell? ⟨gb266, 1, none⟩ = some (.slice A1_1 l1_1.length c1_1) ∧ w'.cell? ad272 = some (.int .i64 (rd l1_0 0)) ∧ w'.cell? ad273 = some (.int .i64 (rd l0_0 0)) ∧ w'.cell? ⟨ad272.block, ad272.off + 2, none⟩ = some (.int .i64 (rd l1_0 2)) ∧ w'.cell? ⟨ad273.block, ad273.off + 1, none⟩ = some (.int .i64 (rd l0_0 1))) (ds := []) #[false, false, false, false, false, false, false, false, false, false, false, false, false, false, false, false, false, false, false, false, false, false, false, false, false, false, false, false, false, false, false, false, false, false, false, false] (by kernel_rfl) rfl rfl ⟨(blk_cell BK265.out 0).trans rfl, (blk_cell BK265.out 1).trans rfl, (blk_cell BK266.out 0).trans rfl, (blk_cell BK266.out 1).trans rfl, ((HB.out.cell (World.block_lt_of_cell? w _ hw272_0)).trans hw272_0), ((HB.out.cell (World.block_lt_of_cell? w _ hw273_0)).trans hw273_0), ((HB.out.cell (World.block_lt_of_cell? w _ hw274_0)).trans hw274_0), ((HB.out.cell (World.block_lt_of_cell? w _ hw276_0)).trans hw276_0)⟩ (fun hHeld => ?_); refine with_tabW conv_BackIn.tab3 conv_BackIn.bits3 (fun HT_ HW_ => ?_)
    generalize wc.drew = w115 at BK265 BK266 BK267 HB hx272_0 hx273_0 hx274_0 hx276_0 hHeld ⊢
    refine yp_ ?_ 0 44
    refine yt8_ ?_ 1 45
    refine yp_ ?_ 2 46
    refine yp_ ?_ 3 47
    refine yp_ ?_ 4 48
    refine yp_ ?_ 5 49
    refine yt8_ ?_ 6 50
    refine yp_ ?_ 7 51
    refine yp_ ?_ 8 52
    refine yp_ ?_ 9 53
    refine yp_ ?_ 10 54
    refine yp_ ?_ 11 55
    refine yp_ ?_ 15 59
    refine yt8_ ?_ 12 56
    refine yp_ ?_ 13 57
    refine yt8_ ?_ 14 58
    refine yt8_ ?_ 16 60
    refine yp_ ?_ 17 61
    refine yt8_ ?_ 18 62
    refine yp_ ?_ 19 63
    refine yp_ ?_ 20 64
    refine yp_ ?_ 21 65
    refine yp_ ?_ 22 66
    refine yp_ ?_ 23 67
    refine yp_ ?_ 27 71
    refine yp_ ?_ 29 73
    refine yt8_ ?_ 24 68
    refine yp_ ?_ 25 69
    refine yt8_ ?_ 26 70
    refine yt8_ ?_ 30 74
    refine yp_ ?_ 31 75
    refine yt8_ ?_ 32 76
    refine yo_ 28 (some 72) (fun K hK => ?_)
    refine yg_ Try.func28 #[.int .i64 a3, .int .i64 (rd l1_0 2), .int .i64 a2] ?_
    with_reducible refine (conv_windows.calls a3 (rd l1_0 2) a2 t275 _ A51.out).mono ?_
    rintro e w' ⟨rfl, ⟨nd, rfl⟩⟩
    refine ⟨_, rfl, ?_⟩
    refine hK.out _ _ ⟨(blk_cell BK265.out 0).trans rfl, (blk_cell BK265.out 1).trans rfl, (blk_cell BK266.out 0).trans rfl, (blk_cell BK266.out 1).trans rfl, ((HB.out.cell (World.block_lt_of_cell? w _ hw272_0)).trans hw272_0), ((HB.out.cell (World.block_lt_of_cell? w _ hw273_0)).trans hw273_0), ((HB.out.cell (World.block_lt_of_cell? w _ hw274_0)).trans hw274_0), ((HB.out.cell (World.block_lt_of_cell? w _ hw276_0)).trans hw276_0)⟩ (fun hHeld => ?_)
    clear hK K
    refine zq_ (some 72) (h := ?_)
    refine yp_ ?_ 33 77
    refine yp_ ?_ 34 78
    refine yp_ ?_ 35 43
    refine done_ (done_of HT_.out (by kernel_rfl)) ?_
    try go_wp2
    (try (rw [drewN_self w115]; generalize hq_ : World.drewN w115 _ = w115; have n0_ : Aside0 (w115.heap[gb265]? = some (.cells #[.slice (some ad273) l0_0.length c0_0, .slice A0_1 l0_1.length c0_1] 25 (0, 0))) := ⟨by rw [← hq_]; exact (zb_ BK265)⟩; have n1_ : Aside0 (w115.heap[gb266]? = some (.cells #[.slice (some ad272) l1_0.length c1_0, .slice A1_1 l1_1.length c1_1] 25 (0, 0))) := ⟨by rw [← hq_]; exact (zb_ BK266)⟩; have n2_ : Aside0 (w115.heap[gb267]? = some (.cells #[.slice none 0 0, .slice none 0 0] 25 (0, 0))) := ⟨by rw [← hq_]; exact (zb_ BK267)⟩; have n3_ : Aside0 (Below w.heap.size w w115) := ⟨by rw [← hq_]; exact (zw3_ HB GE265 GE266 GE267)⟩; clear BK265 BK266 BK267 HB hq_; have BK265 := n0_; have BK266 := n1_; have BK267 := n2_; have HB := n3_; clear n0_ n1_ n2_ n3_))
    replace BK265 := Aside0.mk (blk_drew BK265.out)
    replace BK266 := Aside0.mk (blk_drew BK266.out)
    replace BK267 := Aside0.mk (blk_drew BK267.out)
    replace HB := Aside0.mk (below_drew1 HB.out)
    have p277 : 0 ≤ (0 : Int) := (by omega)
    have q277 : 0 < (l1_0.length : Int) := of_decide_eq_true (by first | (with_reducible assumption) | assumption)
    obtain ⟨ad277, e277, hx277_0⟩ := Kd.at_int HR1_0.out 0 p277 q277
    have hw277_0 := hx277_0
    (try rw [show ((0 : Int)).toNat = 0 from rfl] at hw277_0)
    (try rw [show 0 * 1 = 0 from rfl] at hw277_0)
    (try rw [Addr.add_zero'] at hw277_0)
    obtain rfl : ad272 = ad277 := (by injection e277)
    have qi277 : (0 < l1_0.length) = True := eq_true (by omega)
    (try rw [show ((0 : Int)).toNat = 0 from rfl] at hx277_0)
    (try rw [Addr.add_zero'] at hx277_0)
    replace hx277_0 := (HB.out.cell (World.block_lt_of_cell? w _ hx277_0)).trans hx277_0
    replace p277 := eq_true p277
    replace q277 := eq_true q277
    have p278 : 0 ≤ (1 : Int) := (by omega)
    have q278 : 1 < (l1_0.length : Int) := of_decide_eq_true (by first | (with_reducible assumption) | assumption)
    obtain ⟨ad278, e278, hx278_0⟩ := Kd.at_int HR1_0.out 1 p278 q278
    have hw278_0 := hx278_0
    (try rw [show ((1 : Int)).toNat = 1 from rfl] at hw278_0)
    (try rw [show 1 * 1 = 1 from rfl] at hw278_0)
    (try simp only [Nat.reduceMul, Nat.reduceEqDiff, Go.Addr.add, ↓reduceIte] at hw278_0)
    obtain rfl : ad272 = ad278 := (by injection e278)
    (try simp only [show (1 : Int).toNat = 1 from rfl, Nat.reduceMul, Nat.reduceEqDiff, Go.Addr.add, ↓reduceIte] at hx278_0)
    have qi278 : (1 < l1_0.length) = True := eq_true (by omega)
    (try rw [show ((1 : Int)).toNat = 1 from rfl] at hx278_0)
    replace hx278_0 := (HB.out.cell (World.block_lt_of_cell? w _ hx278_0)).trans hx278_0
    replace p278 := eq_true p278
    replace q278 := eq_true q278
    have p279 : 0 ≤ (2 : Int) := (by omega)
    have q279 : 2 < (l1_0.length : Int) := of_decide_eq_true (by first | (with_reducible assumption) | assumption)
    obtain ⟨ad279, e279, hx279_0⟩ := Kd.at_int HR1_0.out 2 p279 q279
    have hw279_0 := hx279_0
    (try rw [show ((2 : Int)).toNat = 2 from rfl] at hw279_0)
    (try rw [show 2 * 1 = 2 from rfl] at hw279_0)
    (try simp only [Nat.reduceMul, Nat.reduceEqDiff, Go.Addr.add, ↓reduceIte] at hw279_0)
    obtain rfl : ad272 = ad279 := (by injection e279)
    (try simp only [show (2 : Int).toNat = 2 from rfl, Nat.reduceMul, Nat.reduceEqDiff, Go.Addr.add, ↓reduceIte] at hx279_0)
    have qi279 : (2 < l1_0.length) = True := eq_true (by omega)
    (try rw [show ((2 : Int)).toNat = 2 from rfl] at hx279_0)
    replace hx279_0 := (HB.out.cell (World.block_lt_of_cell? w _ hx279_0)).trans hx279_0
    replace p279 := eq_true p279
    replace q279 := eq_true q279
    have p280 : 0 ≤ (1 : Int) := (by omega)
    have q280 : 1 < (l0_0.length : Int) := of_decide_eq_true (by first | (with_reducible assumption) | assumption)
    obtain ⟨ad280, e280, hx280_0⟩ := Kd.at_int HR0_0.out 1 p280 q280
    have hw280_0 := hx280_0
    (try rw [show ((1 : Int)).toNat = 1 from rfl] at hw280_0)
    (try rw [show 1 * 1 = 1 from rfl] at hw280_0)
    (try simp only [Nat.reduceMul, Nat.reduceEqDiff, Go.Addr.add, ↓reduceIte] at hw280_0)
    obtain rfl : ad273 = ad280 := (by injection e280)
    (try simp only [show (1 : Int).toNat = 1 from rfl, Nat.reduceMul, Nat.reduceEqDiff, Go.Addr.add, ↓reduceIte] at hx280_0)
    have qi280 : (1 < l0_0.length) = True := eq_true (by omega)
    (try rw [show ((1 : Int)).toNat = 1 from rfl] at hx280_0)
    replace hx280_0 := (HB.out.cell (World.block_lt_of_cell? w _ hx280_0)).trans hx280_0
    replace p280 := eq_true p280
    replace q280 := eq_true q280
    refine start_ (n := 20) (S := fun w' => w'.cell? ⟨gb266, 0, none⟩ = some (.slice (some ad272) l1_0.length c1_0) ∧ w'.cell? ⟨gb266, 1, none⟩ = some (.slice A1_1 l1_1.length c1_1) ∧ w'.cell? ⟨gb265, 0, none⟩ = some (.slice (some ad273) l0_0.length c0_0) ∧ w'.cell? ⟨gb265, 1, none⟩ = some (.slice A0_1 l0_1.length c0_1) ∧ w'.cell? ad272 = some (.int .i64 (rd l1_0 0)) ∧ w'.cell? ⟨ad272.block, ad272.off + 1, none⟩ = some (.int .i64 (rd l1_0 1)) ∧ w'.cell? ⟨ad272.block, ad272.off + 2, none⟩ = some (.int .i64 (rd l1_0 2)) ∧ w'.cell? ⟨ad273.block, ad273.off + 1, none⟩ = some (.int .i64 (rd l0_0 1))) (ds := []) #[false, false, false, false, false, false, false, false, false, false, false, false, false, false, false, false, false, false, false, false] (by kernel_rfl) rfl rfl ⟨(blk_cell BK266.out 0).trans rfl, (blk_cell BK266.out 1).trans rfl, (blk_cell BK265.out 0).trans rfl, (blk_cell BK265.out 1).trans rfl, ((HB.out.cell (World.block_lt_of_cell? w _ hw277_0)).trans hw277_0), ((HB.out.cell (World.block_lt_of_cell? w _ hw278_0)).trans hw278_0), ((HB.out.cell (World.block_lt_of_cell? w _ hw279_0)).trans hw279_0), ((HB.out.cell (World.block_lt_of_cell? w _ hw280_0)).trans hw280_0)⟩ (fun hHeld => ?_); refine with_tabW conv_BackIn.tab5 conv_BackIn.bits5 (fun HT_ HW_ => ?_)
    generalize w115.drew = w116 at BK265 BK266 BK267 HB hx277_0 hx278_0 hx279_0 hx280_0 hHeld ⊢
    refine yp_ ?_ 0 80
    refine yp_ ?_ 4 84
    refine yp_ ?_ 8 88
    refine yp_ ?_ 12 92
    refine yt8_ ?_ 1 81
    refine yp_ ?_ 2 82
    refine yt8_ ?_ 3 83
    refine yp_ ?_ 16 10
    refine yt8_ ?_ 5 85
    refine yp_ ?_ 6 86
    refine yt8_ ?_ 7 87
    refine yp_ ?_ 17 11
    refine yt8_ ?_ 9 89
    refine yp_ ?_ 10 90
    refine yt8_ ?_ 11 91
    refine yp_ ?_ 18 12
    refine yt8_ ?_ 13 93
    refine yp_ ?_ 14 94
    refine yt8_ ?_ 15 95
    refine yp_ ?_ 19 13
    refine done_ (done_of HT_.out (by kernel_rfl)) ?_
    try go_wp2_with (first | ((with_reducible refine gate_dst (N := 99) rfl ?_); (try (refine gate_guard (by rfl) ?_; dsimp only)); refine Kd.R_lit (Kd.int .i64) _ 3 ?hg (N := 99) ?hd (xs := ([rd l1_0 1, a3] : List Int)) (inner := [.int .i64 (rd l1_0 1), .int .i64 a3]) (ok := fun _ => True) (okp := fun _ => True) ?hr ?hp (fun _ hk => hk) trivial (Below.refl _ _) (Nat.le_refl _) (by simp) ?_; (case hd => rfl); (case hg => rfl); (case hr => first | (go_simp; done) | (go_simp; rfl)); (case hp => exact (Reps.one (show Kd.M (Kd.int .i64) _ _ _ (rd l1_0 1) [.int .i64 (rd l1_0 1)] from rfl) (Reps.one (show Kd.M (Kd.int .i64) _ _ _ a3 [.int .i64 a3] from rfl) (Reps.none _ _)))); intro v282 w117 ho118 hb hg_ hnew_; clear hg_ hnew_; (first | rw [← Ny281.out] at ho118 | (simp only [Int.reduceToNat] at ho118; rw [← Ny281.out] at ho118)); have HO283 := Aside0.mk (Kd.R_lower ho118 (below_size (zw3_ HB GE265 GE266 GE267))); replace BK265 := za_ BK265 hb; replace BK266 := za_ BK266 hb; replace BK267 := za_ BK267 hb; replace HB := Aside0.mk (below_step (zw3_ HB GE265 GE266 GE267) hb); clear hb ho118; obtain ⟨Ao119, co119, eo119⟩ := Kd.R_slice HO283.out; subst eo119) | ((with_reducible refine gate_callee (f := 29) rfl ?_); refine zg_ (some 100) Try.func29 #[.slice Ao119 y281.length co119] (h := ?_); (with_reducible refine (conv_of.calls kj4 _ _ y281 t284 t287 t290 _ ?side1 ?side2 A55.out).mono ?_); (case side1 => exact zk_ ((Kd.R_reads' HO283.out).2.2)); (case side2 => exact (Kd.R_reads' HO283.out).2.1); rintro e w120 ⟨v285, v288, rfl, ho0, ho1, hb⟩; refine ⟨_, rfl, ?_⟩; have HO286 := Aside0.mk (Kd.R_lower (Kd.R_new' ho0 (Kd.R_lt (zr_ HO283.out))) (below_size (zw3_ HB GE265 GE266 GE267))); replace HO283 := ze_ HO283 ho0 hb; have HO289 := Aside0.mk (Kd.R_lower ho1 (below_size (zw3_ HB GE265 GE266 GE267))); replace BK265 := za_ BK265 hb; replace BK266 := za_ BK266 hb; replace BK267 := za_ BK267 hb; replace HB := Aside0.mk (below_step (zw3_ HB GE265 GE266 GE267) hb); (try clear hb); (try clear ho0); (try clear ho1)) | ((with_reducible refine gate_dst (N := 14) rfl ?_); (try (refine gate_guard (by rfl) ?_; dsimp only)); refine box_event ?hg (N := 14) ?hd (cs := #[.slice none 0 0, .slice none 0 0]) (t := 25) ?hr ?_; (case hd => rfl); (case hg => rfl); (case hr => first | (go_simp; done) | (go_simp; rfl)); intro gb291 hg w121 hbox hb; replace HO283 := zy_ HO283 hb; replace HO286 := zy_ HO286 hb; replace HO289 := zy_ HO289 hb; have BK291 := Aside0.mk (hbox); have GW291 := Aside0.mk (zs_ hg (zw3_ HB GE265 GE266 GE267)); have GE291 := Aside0.mk (zs_ hg (zw3_ HB GE265 GE266 GE267)); replace HB := Aside0.mk (below_step (zw3_ HB GE265 GE266 GE267) hb); have NB265_291 := Aside0.mk (zn_ hg BK265); have NB291_265 := Aside0.mk (zm_ hg BK265); replace BK265 := za_ BK265 hb; have NB266_291 := Aside0.mk (zn_ hg BK266); have NB291_266 := Aside0.mk (zm_ hg BK266); replace BK266 := za_ BK266 hb; have NB267_291 := Aside0.mk (zn_ hg BK267); have NB291_267 := Aside0.mk (zm_ hg BK267); replace BK267 := za_ BK267 hb; clear hb hbox hg; obtain ⟨Ao122, co122, eo122⟩ := Kd.R_slice HO286.out; subst eo122; have hnb123 := NB291_265.out; have hnc123 := NB265_291.out; have hnb124 := NB291_266.out; have hnc124 := NB266_291.out; have hnb125 := NB291_267.out; have hnc125 := NB267_291.out; have hcz126_0 := zx_ (v := .slice none 0 0) BK291 0; have hcz126_1 := zx_ (v := .slice none 0 0) BK291 1; have hfz126_0 := blk_frozen BK291.out 0; have hfz126_1 := blk_frozen BK291.out 1; obtain ⟨Ao127, co127, eo127⟩ := Kd.R_slice HO289.out; subst eo127; have hnb128 := NB267_265.out; have hnc128 := NB265_267.out; have hnb129 := NB267_266.out; have hnc129 := NB266_267.out; have hcz130_0 := zx_ (v := .slice none 0 0) BK267 0; have hcz130_1 := zx_ (v := .slice none 0 0) BK267 1; have hfz130_0 := blk_frozen BK267.out 0; have hfz130_1 := blk_frozen BK267.out 1))
    refine bodyPost_ret (results_ct rfl _ _ gb267 25 #[.slice none 0 0, .slice none 0 0] (0, 0) _ rfl (by (with_reducible repeat (first | refine blk_drewN ?_ _ | refine blk_drew ?_ | refine blk_alloc ?_ _)); refine blk_put (cs := #[.slice none 0 0, .slice none 0 0]) ?_ 1 _ rfl; (with_reducible repeat (first | refine blk_drewN ?_ _ | refine blk_drew ?_ | refine blk_alloc ?_ _)); refine blk_put (cs := #[.slice none 0 0, .slice none 0 0]) ?_ 0 _ rfl; (with_reducible repeat (first | refine blk_drewN ?_ _ | refine blk_drew ?_ | refine blk_alloc ?_ _)); refine blk_far ?_ NB267_291.out _; (with_reducible repeat (first | refine blk_drewN ?_ _ | refine blk_drew ?_ | refine blk_alloc ?_ _)); refine blk_far ?_ NB267_291.out _; (with_reducible repeat (first | refine blk_drewN ?_ _ | refine blk_drew ?_ | refine blk_alloc ?_ _)); exact BK267.out) Try.underlying25 rfl (by kernel_rfl)) rfl ?_
    exact ⟨_, _, z0_, z2_, z2_, zw4_ HB GE265 GE266 GE267 GE291⟩
   rw [if_pos c56] at H
   have c56b0 : (t290 == 0) = true := beq_iff_eq.mpr c56
   have c56b1 : (t290 != 0) = false := bne_eq_false_iff_eq.mpr c56
   clear c56
   have H' := Aside0.mk H
   clear H
   try go_wp2
   replace BK265 := Aside0.mk (blk_drew BK265.out)
   replace BK266 := Aside0.mk (blk_drew BK266.out)
   replace BK267 := Aside0.mk (blk_drew BK267.out)
   replace HB := Aside0.mk (below_drew1 HB.out)
   have p272 : 0 ≤ (0 : Int) := (by omega)
   have q272 : 0 < (l1_0.length : Int) := of_decide_eq_true (by first | (with_reducible assumption) | assumption)
   obtain ⟨ad272, e272, hx272_0⟩ := Kd.at_int HR1_0.out 0 p272 q272
   have hw272_0 := hx272_0
   (try rw [show ((0 : Int)).toNat = 0 from rfl] at hw272_0)
   (try rw [show 0 * 1 = 0 from rfl] at hw272_0)
   (try rw [Addr.add_zero'] at hw272_0)
   cases e272
   have qi272 : (0 < l1_0.length) = True := eq_true (by omega)
   (try rw [show ((0 : Int)).toNat = 0 from rfl] at hx272_0)
   (try rw [Addr.add_zero'] at hx272_0)
   replace hx272_0 := (HB.out.cell (World.block_lt_of_cell? w _ hx272_0)).trans hx272_0
   replace p272 := eq_true p272
   replace q272 := eq_true q272
   have p273 : 0 ≤ (0 : Int) := (by omega)
   have q273 : 0 < (l0_0.length : Int) := of_decide_eq_true (by first | (with_reducible assumption) | assumption)
   obtain ⟨ad273, e273, hx273_0⟩ := Kd.at_int HR0_0.out 0 p273 q273
   have hw273_0 := hx273_0
   (try rw [show ((0 : Int)).toNat = 0 from rfl] at hw273_0)
   (try rw [show 0 * 1 = 0 from rfl] at hw273_0)
   (try rw [Addr.add_zero'] at hw273_0)
   cases e273
   have qi273 : (0 < l0_0.length) = True := eq_true (by omega)
   (try rw [show ((0 : Int)).toNat = 0 from rfl] at hx273_0)
   (try rw [Addr.add_zero'] at hx273_0)
   replace hx273_0 := (HB.out.cell (World.block_lt_of_cell? w _ hx273_0)).trans hx273_0
   replace p273 := eq_true p273
   replace q273 := eq_true q273
   have p274 : 0 ≤ (2 : Int) := (by omega)
   have q274 : 2 < (l1_0.length : Int) := of_decide_eq_true (by first | (with_reducible assumption) | assumption)
   obtain ⟨ad274, e274, hx274_0⟩ := Kd.at_int HR1_0.out 2 p274 q274
   have hw274_0 := hx274_0
   (try rw [show ((2 : Int)).toNat = 2 from rfl] at hw274_0)
   (try rw [show 2 * 1 = 2 from rfl] at hw274_0)
   (try simp only [Nat.reduceMul, Nat.reduceEqDiff, Go.Addr.add, ↓reduceIte] at hw274_0)
   obtain rfl : ad272 = ad274 := (by injection e274)
   (try simp only [show (2 : Int).toNat = 2 from rfl, Nat.reduceMul, Nat.reduceEqDiff, Go.Addr.add, ↓reduceIte] at hx274_0)
   have qi274 : (2 < l1_0.length) = True := eq_true (by omega)
   (try rw [show ((2 : Int)).toNat = 2 from rfl] at hx274_0)
   replace hx274_0 := (HB.out.cell (World.block_lt_of_cell? w _ hx274_0)).trans hx274_0
   replace p274 := eq_true p274
   replace q274 := eq_true q274
   have p276 : 0 ≤ (1 : Int) := (by omega)
   have q276 : 1 < (l0_0.length : Int) := of_decide_eq_true (by first | (with_reducible assumption) | assumption)
   obtain ⟨ad276, e276, hx276_0⟩ := Kd.at_int HR0_0.out 1 p276 q276
   have hw276_0 := hx276_0
   (try rw [show ((1 : Int)).toNat = 1 from rfl] at hw276_0)
   (try rw [show 1 * 1 = 1 from rfl] at hw276_0)
   (try simp only [Nat.reduceMul, Nat.reduceEqDiff, Go.Addr.add, ↓reduceIte] at hw276_0)
   obtain rfl : ad273 = ad276 := (by injection e276)
   (try simp only [show (1 : Int).toNat = 1 from rfl, Nat.reduceMul, Nat.reduceEqDiff, Go.Addr.add, ↓reduceIte] at hx276_0)
   have qi276 : (1 < l0_0.length) = True := eq_true (by omega)
   (try rw [show ((1 : Int)).toNat = 1 from rfl] at hx276_0)
   replace hx276_0 := (HB.out.cell (World.block_lt_of_cell? w _ hx276_0)).trans hx276_0
   replace p276 := eq_true p276
   replace q276 := eq_true q276
   refine start_ (n := 36) (S := fun w' => w'.cell? ⟨gb265, 0, none⟩ = some (.slice (some ad273) l0_0.length c0_0) ∧ w'.cell? ⟨gb265, 1, none⟩ = some (.slice A0_1 l0_1.length c0_1) ∧ w'.cell? ⟨gb266, 0, none⟩ = some (.slice (some ad272) l1_0.length c1_0) ∧ w'.cell? ⟨gb266, 1, none⟩ = some (.slice A1_1 l1_1.length c1_1) ∧ w'.cell? ad272 = some (.int .i64 (rd l1_0 0)) ∧ w'.cell? ad273 = some (.int .i64 (rd l0_0 0)) ∧ w'.cell? ⟨ad272.block, ad272.off + 2, none⟩ = some (.int .i64 (rd l1_0 2)) ∧ w'.cell? ⟨ad273.block, ad273.off + 1, none⟩ = some (.int .i64 (rd l0_0 1))) (ds := []) #[false, false, false, false, false, false, false, false, false, false, false, false, false, false, false, false, false, false, false, false, false, false, false, false, false, false, false, false, false, false, false, false, false, false, false, false] (by kernel_rfl) rfl rfl ⟨(blk_cell BK265.out 0).trans rfl, (blk_cell BK265.out 1).trans rfl, (blk_cell BK266.out 0).trans rfl, (blk_cell BK266.out 1).trans rfl, ((HB.out.cell (World.block_lt_of_cell? w _ hw272_0)).trans hw272_0), ((HB.out.cell (World.block_lt_of_cell? w _ hw273_0)).trans hw273_0), ((HB.out.cell (World.block_lt_of_cell? w _ hw274_0)).trans hw274_0), ((HB.out.cell (World.block_lt_of_cell? w _ hw276_0)).trans hw276_0)⟩ (fun hHeld => ?_); refine with_tabW conv_BackIn.tab3 conv_BackIn.bits3 (fun HT_ HW_ => ?_)
   generalize wc.drew = w57 at BK265 BK266 BK267 HB hx272_0 hx273_0 hx274_0 hx276_0 hHeld ⊢
   refine yp_ ?_ 0 44
   refine yt8_ ?_ 1 45
   refine yp_ ?_ 2 46
   refine yp_ ?_ 3 47
   refine yp_ ?_ 4 48
   refine yp_ ?_ 5 49
   refine yt8_ ?_ 6 50
   refine yp_ ?_ 7 51
   refine yp_ ?_ 8 52
   refine yp_ ?_ 9 53
   refine yp_ ?_ 10 54
   refine yp_ ?_ 11 55
   refine yp_ ?_ 15 59
   refine yt8_ ?_ 12 56
   refine yp_ ?_ 13 57
   refine yt8_ ?_ 14 58
   refine yt8_ ?_ 16 60
   refine yp_ ?_ 17 61
   refine yt8_ ?_ 18 62
   refine yp_ ?_ 19 63
   refine yp_ ?_ 20 64
   refine yp_ ?_ 21 65
   refine yp_ ?_ 22 66
   refine yp_ ?_ 23 67
   refine yp_ ?_ 27 71
   refine yp_ ?_ 29 73
   refine yt8_ ?_ 24 68
   refine yp_ ?_ 25 69
   refine yt8_ ?_ 26 70
   refine yt8_ ?_ 30 74
   refine yp_ ?_ 31 75
   refine yt8_ ?_ 32 76
   refine yo_ 28 (some 72) (fun K hK => ?_)
   refine yg_ Try.func28 #[.int .i64 a3, .int .i64 (rd l1_0 2), .int .i64 a2] ?_
   with_reducible refine (conv_windows.calls a3 (rd l1_0 2) a2 t275 _ A51.out).mono ?_
   rintro e w' ⟨rfl, ⟨nd, rfl⟩⟩
   refine ⟨_, rfl, ?_⟩
   refine hK.out _ _ ⟨(blk_cell BK265.out 0).trans rfl, (blk_cell BK265.out 1).trans rfl, (blk_cell BK266.out 0).trans rfl, (blk_cell BK266.out 1).trans rfl, ((HB.out.cell (World.block_lt_of_cell? w _ hw272_0)).trans hw272_0), ((HB.out.cell (World.block_lt_of_cell? w _ hw273_0)).trans hw273_0), ((HB.out.cell (World.block_lt_of_cell? w _ hw274_0)).trans hw274_0), ((HB.out.cell (World.block_lt_of_cell? w _ hw276_0)).trans hw276_0)⟩ (fun hHeld => ?_)
   clear hK K
   refine zq_ (some 72) (h := ?_)
   refine yp_ ?_ 33 77
   refine yp_ ?_ 34 78
   refine yp_ ?_ 35 43
   refine done_ (done_of HT_.out (by kernel_rfl)) ?_
   try go_wp2
   (try (rw [drewN_self w57]; generalize hq_ : World.drewN w57 _ = w57; have n0_ : Aside0 (w57.heap[gb265]? = some (.cells #[.slice (some ad273) l0_0.length c0_0, .slice A0_1 l0_1.length c0_1] 25 (0, 0))) := ⟨by rw [← hq_]; exact (zb_ BK265)⟩; have n1_ : Aside0 (w57.heap[gb266]? = some (.cells #[.slice (some ad272) l1_0.length c1_0, .slice A1_1 l1_1.length c1_1] 25 (0, 0))) := ⟨by rw [← hq_]; exact (zb_ BK266)⟩; have n2_ : Aside0 (w57.heap[gb267]? = some (.cells #[.slice none 0 0, .slice none 0 0] 25 (0, 0))) := ⟨by rw [← hq_]; exact (zb_ BK267)⟩; have n3_ : Aside0 (Below w.heap.size w w57) := ⟨by rw [← hq_]; exact (zw3_ HB GE265 GE266 GE267)⟩; clear BK265 BK266 BK267 HB hq_; have BK265 := n0_; have BK266 := n1_; have BK267 := n2_; have HB := n3_; clear n0_ n1_ n2_ n3_))
   replace BK265 := Aside0.mk (blk_drew BK265.out)
   replace BK266 := Aside0.mk (blk_drew BK266.out)
   replace BK267 := Aside0.mk (blk_drew BK267.out)
   replace HB := Aside0.mk (below_drew1 HB.out)
   have p277 : 0 ≤ (0 : Int) := (by omega)
   have q277 : 0 < (l1_0.length : Int) := of_decide_eq_true (by first | (with_reducible assumption) | assumption)
   obtain ⟨ad277, e277, hx277_0⟩ := Kd.at_int HR1_0.out 0 p277 q277
   have hw277_0 := hx277_0
   (try rw [show ((0 : Int)).toNat = 0 from rfl] at hw277_0)
   (try rw [show 0 * 1 = 0 from rfl] at hw277_0)
   (try rw [Addr.add_zero'] at hw277_0)
   obtain rfl : ad272 = ad277 := (by injection e277)
   have qi277 : (0 < l1_0.length) = True := eq_true (by omega)
   (try rw [show ((0 : Int)).toNat = 0 from rfl] at hx277_0)
   (try rw [Addr.add_zero'] at hx277_0)
   replace hx277_0 := (HB.out.cell (World.block_lt_of_cell? w _ hx277_0)).trans hx277_0
   replace p277 := eq_true p277
   replace q277 := eq_true q277
   have p278 : 0 ≤ (1 : Int) := (by omega)
   have q278 : 1 < (l1_0.length : Int) := of_decide_eq_true (by first | (with_reducible assumption) | assumption)
   obtain ⟨ad278, e278, hx278_0⟩ := Kd.at_int HR1_0.out 1 p278 q278
   have hw278_0 := hx278_0
   (try rw [show ((1 : Int)).toNat = 1 from rfl] at hw278_0)
   (try rw [show 1 * 1 = 1 from rfl] at hw278_0)
   (try simp only [Nat.reduceMul, Nat.reduceEqDiff, Go.Addr.add, ↓reduceIte] at hw278_0)
   obtain rfl : ad272 = ad278 := (by injection e278)
   (try simp only [show (1 : Int).toNat = 1 from rfl, Nat.reduceMul, Nat.reduceEqDiff, Go.Addr.add, ↓reduceIte] at hx278_0)
   have qi278 : (1 < l1_0.length) = True := eq_true (by omega)
   (try rw [show ((1 : Int)).toNat = 1 from rfl] at hx278_0)
   replace hx278_0 := (HB.out.cell (World.block_lt_of_cell? w _ hx278_0)).trans hx278_0
   replace p278 := eq_true p278
   replace q278 := eq_true q278
   have p279 : 0 ≤ (2 : Int) := (by omega)
   have q279 : 2 < (l1_0.length : Int) := of_decide_eq_true (by first | (with_reducible assumption) | assumption)
   obtain ⟨ad279, e279, hx279_0⟩ := Kd.at_int HR1_0.out 2 p279 q279
   have hw279_0 := hx279_0
   (try rw [show ((2 : Int)).toNat = 2 from rfl] at hw279_0)
   (try rw [show 2 * 1 = 2 from rfl] at hw279_0)
   (try simp only [Nat.reduceMul, Nat.reduceEqDiff, Go.Addr.add, ↓reduceIte] at hw279_0)
   obtain rfl : ad272 = ad279 := (by injection e279)
   (try simp only [show (2 : Int).toNat = 2 from rfl, Nat.reduceMul, Nat.reduceEqDiff, Go.Addr.add, ↓reduceIte] at hx279_0)
   have qi279 : (2 < l1_0.length) = True := eq_true (by omega)
   (try rw [show ((2 : Int)).toNat = 2 from rfl] at hx279_0)
   replace hx279_0 := (HB.out.cell (World.block_lt_of_cell? w _ hx279_0)).trans hx279_0
   replace p279 := eq_true p279
   replace q279 := eq_true q279
   have p280 : 0 ≤ (1 : Int) := (by omega)
   have q280 : 1 < (l0_0.length : Int) := of_decide_eq_true (by first | (with_reducible assumption) | assumption)
   obtain ⟨ad280, e280, hx280_0⟩ := Kd.at_int HR0_0.out 1 p280 q280
   have hw280_0 := hx280_0
   (try rw [show ((1 : Int)).toNat = 1 from rfl] at hw280_0)
   (try rw [show 1 * 1 = 1 from rfl] at hw280_0)
   (try simp only [Nat.reduceMul, Nat.reduceEqDiff, Go.Addr.add, ↓reduceIte] at hw280_0)
   obtain rfl : ad273 = ad280 := (by injection e280)
   (try simp only [show (1 : Int).toNat = 1 from rfl, Nat.reduceMul, Nat.reduceEqDiff, Go.Addr.add, ↓reduceIte] at hx280_0)
   have qi280 : (1 < l0_0.length) = True := eq_true (by omega)
   (try rw [show ((1 : Int)).toNat = 1 from rfl] at hx280_0)
   replace hx280_0 := (HB.out.cell (World.block_lt_of_cell? w _ hx280_0)).trans hx280_0
   replace p280 := eq_true p280
   replace q280 := eq_true q280
   refine start_ (n := 20) (S := fun w' => w'.cell? ⟨gb266, 0, none⟩ = some (.slice (some ad272) l1_0.length c1_0) ∧ w'.cell? ⟨gb266, 1, none⟩ = some (.slice A1_1 l1_1.length c1_1) ∧ w'.cell? ⟨gb265, 0, none⟩ = some (.slice (some ad273) l0_0.length c0_0) ∧ w'.cell? ⟨gb265, 1, none⟩ = some (.slice A0_1 l0_1.length c0_1) ∧ w'.cell? ad272 = some (.int .i64 (rd l1_0 0)) ∧ w'.cell? ⟨ad272.block, ad272.off + 1, none⟩ = some (.int .i64 (rd l1_0 1)) ∧ w'.cell? ⟨ad272.block, ad272.off + 2, none⟩ = some (.int .i64 (rd l1_0 2)) ∧ w'.cell? ⟨ad273.block, ad273.off + 1, none⟩ = some (.int .i64 (rd l0_0 1))) (ds := []) #[false, false, false, false, false, false, false, false, false, false, false, false, false, false, false, false, false, false, false, false] (by kernel_rfl) rfl rfl ⟨(blk_cell BK266.out 0).trans rfl, (blk_cell BK266.out 1).trans rfl, (blk_cell BK265.out 0).trans rfl, (blk_cell BK265.out 1).trans rfl, ((HB.out.cell (World.block_lt_of_cell? w _ hw277_0)).trans hw277_0), ((HB.out.cell (World.block_lt_of_cell? w _ hw278_0)).trans hw278_0), ((HB.out.cell (World.block_lt_of_cell? w _ hw279_0)).trans hw279_0), ((HB.out.cell (World.block_lt_of_cell? w _ hw280_0)).trans hw280_0)⟩ (fun hHeld => ?_); refine with_tabW conv_BackIn.tab5 conv_BackIn.bits5 (fun HT_ HW_ => ?_)
   generalize w57.drew = w58 at BK265 BK266 BK267 HB hx277_0 hx278_0 hx279_0 hx280_0 hHeld ⊢
   refine yp_ ?_ 0 80
   refine yp_ ?_ 4 84
   refine yp_ ?_ 8 88
   refine yp_ ?_ 12 92
   refine yt8_ ?_ 1 81
   refine yp_ ?_ 2 82
   refine yt8_ ?_ 3 83
   refine yp_ ?_ 16 10
   refine yt8_ ?_ 5 85
   refine yp_ ?_ 6 86
   refine yt8_ ?_ 7 87
   refine yp_ ?_ 17 11
   refine yt8_ ?_ 9 89
   refine yp_ ?_ 10 90
   refine yt8_ ?_ 11 91
   refine yp_ ?_ 18 12
   refine yt8_ ?_ 13 93
   refine yp_ ?_ 14 94
   refine yt8_ ?_ 15 95
   refine yp_ ?_ 19 13
   refine done_ (done_of HT_.out (by kernel_rfl)) ?_
   try go_wp2_with (first | ((with_reducible refine gate_dst (N := 99) rfl ?_); (try (refine gate_guard (by rfl) ?_; dsimp only)); refine Kd.R_lit (Kd.int .i64) _ 3 ?hg (N := 99) ?hd (xs := ([rd l1_0 1, a3] : List Int)) (inner := [.int .i64 (rd l1_0 1), .int .i64 a3]) (ok := fun _ => True) (okp := fun _ => True) ?hr ?hp (fun _ hk => hk) trivial (Below.refl _ _) (Nat.le_refl _) (by simp) ?_; (case hd => rfl); (case hg => rfl); (case hr => first | (go_simp; done) | (go_simp; rfl)); (case hp => exact (Reps.one (show Kd.M (Kd.int .i64) _ _ _ (rd l1_0 1) [.int .i64 (rd l1_0 1)] from rfl) (Reps.one (show Kd.M (Kd.int .i64) _ _ _ a3 [.int .i64 a3] from rfl) (Reps.none _ _)))); intro v282 w59 ho60 hb hg_ hnew_; clear hg_ hnew_; (first | rw [← Ny281.out] at ho60 | (simp only [Int.reduceToNat] at ho60; rw [← Ny281.out] at ho60)); have HO283 := Aside0.mk (Kd.R_lower ho60 (below_size (zw3_ HB GE265 GE266 GE267))); replace BK265 := za_ BK265 hb; replace BK266 := za_ BK266 hb; replace BK267 := za_ BK267 hb; replace HB := Aside0.mk (below_step (zw3_ HB GE265 GE266 GE267) hb); clear hb ho60; obtain ⟨Ao61, co61, eo61⟩ := Kd.R_slice HO283.out; subst eo61) | ((with_reducible refine gate_callee (f := 29) rfl ?_); refine zg_ (some 100) Try.func29 #[.slice Ao61 y281.length co61] (h := ?_); (with_reducible refine (conv_of.calls kj4 _ _ y281 t284 t287 t290 _ ?side1 ?side2 A55.out).mono ?_); (case side1 => exact zk_ ((Kd.R_reads' HO283.out).2.2)); (case side2 => exact (Kd.R_reads' HO283.out).2.1); rintro e w62 ⟨v285, v288, rfl, ho0, ho1, hb⟩; refine ⟨_, rfl, ?_⟩; have HO286 := Aside0.mk (Kd.R_lower (Kd.R_new' ho0 (Kd.R_lt (zr_ HO283.out))) (below_size (zw3_ HB GE265 GE266 GE267))); replace HO283 := ze_ HO283 ho0 hb; have HO289 := Aside0.mk (Kd.R_lower ho1 (below_size (zw3_ HB GE265 GE266 GE267))); replace BK265 := za_ BK265 hb; replace BK266 := za_ BK266 hb; replace BK267 := za_ BK267 hb; replace HB := Aside0.mk (below_step (zw3_ HB GE265 GE266 GE267) hb); (try clear hb); (try clear ho0); (try clear ho1)) | ((with_reducible refine gate_dst (N := 14) rfl ?_); (try (refine gate_guard (by rfl) ?_; dsimp only)); refine box_event ?hg (N := 14) ?hd (cs := #[.slice none 0 0, .slice none 0 0]) (t := 25) ?hr ?_; (case hd => rfl); (case hg => rfl); (case hr => first | (go_simp; done) | (go_simp; rfl)); intro gb291 hg w63 hbox hb; replace HO283 := zy_ HO283 hb; replace HO286 := zy_ HO286 hb; replace HO289 := zy_ HO289 hb; have BK291 := Aside0.mk (hbox); have GW291 := Aside0.mk (zs_ hg (zw3_ HB GE265 GE266 GE267)); have GE291 := Aside0.mk (zs_ hg (zw3_ HB GE265 GE266 GE267)); replace HB := Aside0.mk (below_step (zw3_ HB GE265 GE266 GE267) hb); have NB265_291 := Aside0.mk (zn_ hg BK265); have NB291_265 := Aside0.mk (zm_ hg BK265); replace BK265 := za_ BK265 hb; have NB266_291 := Aside0.mk (zn_ hg BK266); have NB291_266 := Aside0.mk (zm_ hg BK266); replace BK266 := za_ BK266 hb; have NB267_291 := Aside0.mk (zn_ hg BK267); have NB291_267 := Aside0.mk (zm_ hg BK267); replace BK267 := za_ BK267 hb; clear hb hbox hg; obtain ⟨Ao64, co64, eo64⟩ := Kd.R_slice HO286.out; subst eo64; have hnb65 := NB291_265.out; have hnc65 := NB265_291.out; have hnb66 := NB291_266.out; have hnc66 := NB266_291.out; have hnb67 := NB291_267.out; have hnc67 := NB267_291.out; have hcz68_0 := zx_ (v := .slice none 0 0) BK291 0; have hcz68_1 := zx_ (v := .slice none 0 0) BK291 1; have hfz68_0 := blk_frozen BK291.out 0; have hfz68_1 := blk_frozen BK291.out 1; obtain ⟨Ao69, co69, eo69⟩ := Kd.R_slice HO289.out; subst eo69))
   go_loopg [110] kj4 (fun kq v110 w' => ∃ (x110_2 : Int) (x292001_2 : List Int) (u292001 : Value), v110 = .int .i64 x110_2 ∧ Aside0 (conv_BackIn.l0 kq a2 a3 (rd l1_0 0) (rd l1_0 1) (rd l1_0 2) (rd l0_0 1) (t287.length : Int) x110_2 l0_0 l0_1 l1_0 l1_1 t284 x292001_2 = some (r1, r2, r3)) ∧ Aside0 (kq ≤ kj4) ∧ Aside0 (Kd.R (Kd.int .i64) 3 w' w.heap.size (fun _ => True) (.slice Ao64 t284.length co64) t284) ∧ Aside0 (Kd.R (Kd.int .i64) 33 w' w.heap.size (fun _ => True) u292001 x292001_2) ∧ Aside0 (w'.heap[gb265]? = some (.cells #[(.slice (some ad273) l0_0.length c0_0), (.slice A0_1 l0_1.length c0_1)] 25 (0, 0))) ∧ Aside0 (w'.heap[gb266]? = some (.cells #[(.slice (some ad272) l1_0.length c1_0), (.slice A1_1 l1_1.length c1_1)] 25 (0, 0))) ∧ Aside0 (w'.heap[gb267]? = some (.cells #[(.slice none 0 0), (.slice none 0 0)] 25 (0, 0))) ∧ Aside0 (w'.heap[gb291]? = some (.cells #[(.slice Ao64 t284.length co64), u292001] 25 (0, 0))) ∧ Aside0 (Below w.heap.size w w'))
   case atStart => exact ⟨(0), (t287), (.slice Ao69 t287.length co69), z1_, H', ⟨Nat.le_refl _⟩, ⟨zr_ (Kd.R_mono (Kd.R_far (p := ⟨gb291, 1, none⟩) (Kd.R_far (p := ⟨gb291, 0, none⟩) (Kd.R_types HO286.out BK291.out (by decide)) (fun _ hk => hk.2) (.slice Ao64 t284.length co64)) (fun _ hk => hk.2) (.slice Ao69 t287.length co69)) (fun _ hk => trivial))⟩, ⟨zr_ (Kd.R_mono (Kd.R_far (p := ⟨gb291, 1, none⟩) (Kd.R_far (p := ⟨gb291, 0, none⟩) (Kd.R_types HO289.out BK291.out (by decide)) (fun _ hk => hk.2) (.slice Ao64 t284.length co64)) (fun _ hk => hk.2) (.slice Ao69 t287.length co69)) (fun _ hk => trivial))⟩, ⟨zv1_ BK265 NB265_291⟩, ⟨zv1_ BK266 NB266_291⟩, ⟨zv1_ BK267 NB267_291⟩, ⟨zo2_ BK291⟩, ⟨zw4_ HB GE265 GE266 GE267 GE291⟩⟩
   case round =>
    clear H'
    try clear c1
    try clear c2
    try clear p2
    try clear q2
    try clear hx2
    try clear qi2
    try clear c6
    try clear p27
    try clear q27
    try clear hx27
    try clear qi27
    try clear c28
    try clear p28
    try clear q28
    try clear hx28
    try clear qi28
    try clear c29
    try clear c65
    try clear c66
    try clear c67
    try clear hcz68_0
    try clear hcz68_1
    try clear hfz68_0
    try clear hfz68_1
    try clear hx272_0
    try clear hx273_0
    try clear hx274_0
    try clear hx276_0
    try clear hx277_0
    try clear hx278_0
    try clear hx279_0
    try clear hx280_0
    try clear p272
    try clear p273
    try clear p274
    try clear p276
    try clear p277
    try clear p278
    try clear p279
    try clear p280
    try clear q272
    try clear q273
    try clear q274
    try clear q276
    try clear q277
    try clear q278
    try clear q279
    try clear q280
    obtain ⟨x110_2, x292001_2, u292001, rfl, HA, HK2, HO_292000, HO_292001, BK265, BK266, BK267, BK291, HB⟩ := hrel
    cases gk with
    | zero => exact absurd HA.out (by simp [conv_BackIn.l0])
    | succ k2 =>
     have H := HA.out
     clear HA
     simp only [conv_BackIn.l0] at H
     by_cases c70 : x110_2 < (t287.length : Int)
     rotate_left
     ·rw [if_neg c70] at H
      have c70b0 : decide (x110_2 < (t287.length : Int)) = false := decide_eq_false c70
      clear c70
      simp only [Option.some.injEq, Prod.mk.injEq] at H
      obtain ⟨rfl, rfl, rfl⟩ := H
      have hnb107 := NB291_265.out
      have hnc107 := NB265_291.out
      have hnb108 := NB291_266.out
      have hnc108 := NB266_291.out
      have hnb109 := NB291_267.out
      have hnc109 := NB267_291.out
      have hcz110_0 := zx_ (v := .slice Ao64 t284.length co64) BK291 0
      have hcz110_1 := zx_ (v := u292001) BK291 1
      have hfz110_0 := blk_frozen BK291.out 0
      have hfz110_1 := blk_frozen BK291.out 1
      have hnb111 := NB267_265.out
      have hnc111 := NB265_267.out
      have hnb112 := NB267_266.out
      have hnc112 := NB266_267.out
      have hcz113_0 := zx_ (v := .slice none 0 0) BK267 0
      have hcz113_1 := zx_ (v := .slice none 0 0) BK267 1
      have hfz113_0 := blk_frozen BK267.out 0
      have hfz113_1 := blk_frozen BK267.out 1
      obtain ⟨Ao114, co114, eo114⟩ := Kd.R_slice HO_292001.out
      subst eo114
      go_wp2
      refine bodyPost_ret (results_ct rfl _ _ gb267 25 #[.slice Ao64 t284.length co64, .slice Ao114 x292001_2.length co114] (0, 0) _ rfl (zo2_ BK267) Try.underlying25 rfl (by kernel_rfl)) rfl ?_
      exact ⟨_, _, z0_, zr_ (Kd.R_mono (Kd.R_far (p := ⟨gb267, 1, none⟩) (Kd.R_far (p := ⟨gb267, 0, none⟩) (Kd.R_types HO_292000.out BK267.out (by decide)) (fun _ hk => hk.2) (.slice Ao64 t284.length co64)) (fun _ hk => hk.2) (.slice Ao114 x292001_2.length co114)) (fun _ hk => trivial)), zr_ (Kd.R_mono (Kd.R_far (p := ⟨gb267, 1, none⟩) (Kd.R_far (p := ⟨gb267, 0, none⟩) (Kd.R_types HO_292001.out BK267.out (by decide)) (fun _ hk => hk.2) (.slice Ao64 t284.length co64)) (fun _ hk => hk.2) (.slice Ao114 x292001_2.length co114)) (fun _ hk => trivial)), zw4_ HB GE265 GE266 GE267 GE291⟩
     rw [if_pos c70] at H
     have c70b0 : decide (x110_2 < (t287.length : Int)) = true := decide_eq_true c70
     clear c70
     by_cases c71 : a3 = 0
     ·rw [if_pos c71] at H
      exact absurd H (by simp)
     rw [if_neg c71] at H
     have c71b0 : (a3 == 0) = false := beq_eq_false_iff_ne.mpr c71
     have c71b1 : (a3 != 0) = true := bne_iff_ne.mpr c71
     have H' := Aside0.mk H
     clear H
     try go_wp2
     replace HO_292000 := Aside0.mk (Kd.R_drew HO_292000.out)
     replace HO_292001 := Aside0.mk (Kd.R_drew HO_292001.out)
     replace BK265 := Aside0.mk (blk_drew BK265.out)
     replace BK266 := Aside0.mk (blk_drew BK266.out)
     replace BK267 := Aside0.mk (blk_drew BK267.out)
     replace BK291 := Aside0.mk (blk_drew BK291.out)
     replace HB := Aside0.mk (below_drew1 HB.out)
     refine start_ (n := 8) (S := fun w' => True) (ds := []) #[false, false, false, false, false, false, false, false] (by kernel_rfl) rfl rfl trivial (fun hHeld => ?_); refine with_tabW conv_BackIn.tab12 conv_BackIn.bits12 (fun HT_ HW_ => ?_)
     generalize wr.drew = w72 at HO_292000 HO_292001 BK265 BK266 BK267 BK291 HB hHeld ⊢
     refine yp_ ?_ 0 113
     refine yp_ ?_ 1 114
     refine yp_ ?_ 2 115
     refine yp_ ?_ 3 116
     refine yp_ ?_ 4 117
     refine yp_ ?_ 5 118
     refine yp_ ?_ 6 17
     refine yp_ ?_ 7 18
     refine done_ (done_of HT_.out (by kernel_rfl)) ?_
     try go_wp2_with (first | ((with_reducible refine gate_dst (N := 19) rfl ?_); (try (refine gate_guard (by rfl) ?_; dsimp only)); refine box_event ?hg (N := 19) ?hd (cs := #[.int .i64 0, .int .i64 0, .int .u64 0]) (t := 54) ?hr ?_; (case hd => rfl); (case hg => rfl); (case hr => first | (go_simp; done) | (go_simp; rfl)); intro gb292 hg w73 hbox hb; replace HO_292000 := zy_ HO_292000 hb; replace HO_292001 := zy_ HO_292001 hb; have BK292 := Aside0.mk (hbox); have GW292 := Aside0.mk (zs_ hg (zw4_ HB GE265 GE266 GE267 GE291)); have GE292 := Aside0.mk (zs_ hg (zw4_ HB GE265 GE266 GE267 GE291)); replace HB := Aside0.mk (below_step (zw4_ HB GE265 GE266 GE267 GE291) hb); have NB265_292 := Aside0.mk (zn_ hg BK265); have NB292_265 := Aside0.mk (zm_ hg BK265); replace BK265 := za_ BK265 hb; have NB266_292 := Aside0.mk (zn_ hg BK266); have NB292_266 := Aside0.mk (zm_ hg BK266); replace BK266 := za_ BK266 hb; have NB267_292 := Aside0.mk (zn_ hg BK267); have NB292_267 := Aside0.mk (zm_ hg BK267); replace BK267 := za_ BK267 hb; have NB291_292 := Aside0.mk (zn_ hg BK291); have NB292_291 := Aside0.mk (zm_ hg BK291); replace BK291 := za_ BK291 hb; clear hb hbox hg))
     go_loopg [120] k2 (fun kq v120 w' => ∃ (x120_3 : Int) (x293000_3 : Int) (x293001_3 : Int) (x293002_3 : Int), v120 = .int .i64 x120_3 ∧ Aside0 (conv_BackIn.l1 kq a2 a3 (rd l1_0 0) (rd l1_0 1) (rd l1_0 2) (rd l0_0 1) x110_2 (wrap64 (Int.tdiv x110_2 a3)) (Int.tmod x110_2 a3) (t287.length : Int) x110_2 (rd l1_0 0) x120_3 l0_0 l0_1 l1_0 l1_1 t284 x292001_2 x293000_3 x293001_3 x293002_3 = some (r1, r2, r3)) ∧ Aside0 (kq ≤ k2) ∧ Aside0 (Kd.R (Kd.int .i64) 3 w' w.heap.size (fun _ => True) (.slice Ao64 t284.length co64) t284) ∧ Aside0 (Kd.R (Kd.int .i64) 33 w' w.heap.size (fun _ => True) u292001 x292001_2) ∧ Aside0 (w'.heap[gb265]? = some (.cells #[(.slice (some ad273) l0_0.length c0_0), (.slice A0_1 l0_1.length c0_1)] 25 (0, 0))) ∧ Aside0 (w'.heap[gb266]? = some (.cells #[(.slice (some ad272) l1_0.length c1_0), (.slice A1_1 l1_1.length c1_1)] 25 (0, 0))) ∧ Aside0 (w'.heap[gb267]? = some (.cells #[(.slice none 0 0), (.slice none 0 0)] 25 (0, 0))) ∧ Aside0 (w'.heap[gb291]? = some (.cells #[(.slice Ao64 t284.length co64), u292001] 25 (0, 0))) ∧ Aside0 (w'.heap[gb292]? = some (.cells #[.int .i64 x293000_3, .int .i64 x293001_3, .int .u64 x293002_3] 54 (0, 0))) ∧ Aside0 (Below w.heap.size w w'))
     case atStart => exact ⟨(0), (0), (0), (0), z1_, H', ⟨Nat.le_refl _⟩, ⟨zr_ HO_292000.out⟩, ⟨zr_ HO_292001.out⟩, ⟨zb_ BK265⟩, ⟨zb_ BK266⟩, ⟨zb_ BK267⟩, ⟨zb_ BK291⟩, ⟨zb_ BK292⟩, ⟨zw5_ HB GE265 GE266 GE267 GE291 GE292⟩⟩
     case round =>
      clear H'
      try clear c1
      try clear c2
      try clear p2
      try clear q2
      try clear hx2
      try clear qi2
      try clear c6
      try clear p6
      try clear c7
      try clear p27
      try clear q27
      try clear hx27
      try clear qi27
      try clear c28
      try clear p28
      try clear q28
      try clear hx28
      try clear qi28
      try clear c29
      try clear p64
      try clear c65
      try clear c66
      try clear c67
      try clear c70
      try clear c70b0
      try clear c71
      try clear c71b0
      try clear c71b1
      try clear hcz68_0
      try clear hcz68_1
      try clear hfz68_0
      try clear hfz68_1
      try clear hx272_0
      try clear hx273_0
      try clear hx274_0
      try clear hx276_0
      try clear hx277_0
      try clear hx278_0
      try clear hx279_0
      try clear hx280_0
      try clear p2
      try clear p27
      try clear p272
      try clear p273
      try clear p274
      try clear p276
      try clear p277
      try clear p278
      try clear p279
      try clear p28
      try clear p280
      try clear q2
      try clear q27
      try clear q272
      try clear q273
      try clear q274
      try clear q276
      try clear q277
      try clear q278
      try clear q279
      try clear q28
      try clear q280
      obtain ⟨x120_3, x293000_3, x293001_3, x293002_3, rfl, HA, HK3, HO_292000, HO_292001, BK265, BK266, BK267, BK291, BK292, HB⟩ := hrel
      cases gk with
      | zero => exact absurd HA.out (by simp [conv_BackIn.l1])
      | succ k3 =>
       have H := HA.out
       clear HA
       simp only [conv_BackIn.l1] at H
       by_cases c74 : x120_3 < (rd l1_0 0)
       rotate_left
       ·rw [if_neg c74] at H
        have c74b0 : decide (x120_3 < (rd l1_0 0)) = false := decide_eq_false c74
        clear c74
        replace H := Option.bind_eq_some_iff.mp H
        obtain ⟨t293, A950, H⟩ := H
        (try dsimp only at H)
        have A95 := Aside0.mk A950
        clear A950
        by_cases c96 : 0 ≤ x110_2
        rotate_left
        ·rw [if_neg c96] at H
         exact absurd H (by simp)
        rw [if_pos c96] at H
        have c96b0 : decide (0 ≤ x110_2) = true := decide_eq_true c96
        clear c96
        by_cases c97 : x110_2 < (x292001_2.length : Int)
        rotate_left
        ·rw [if_neg c97] at H
         exact absurd H (by simp)
        rw [if_pos c97] at H
        have c97b0 : decide (x110_2 < (x292001_2.length : Int)) = true := decide_eq_true c97
        clear c97
        obtain ⟨y294, hy294⟩ : ∃ y_ : List Int, y_ = (x292001_2.set (x110_2 : Int).toNat t293) := ⟨_, rfl⟩
        replace H : (conv_BackIn.l0 k3 a2 a3 (rd l1_0 0) (rd l1_0 1) (rd l1_0 2) (rd l0_0 1) (t287.length : Int) (wrap64 (x110_2 + 1)) l0_0 l0_1 l1_0 l1_1 t284 y294) = some (r1, r2, r3) := by first | (rw [hy294]; with_reducible exact H) | (have H2_ := (Option.bind_some _ _).symm.trans H; rw [hy294]; with_reducible exact H2_) | (have H2_ := (Option.bind_some _ _).symm.trans H; with_reducible exact H2_) | with_reducible exact H | (rw [hy294]; exact H) | exact H
        have Ny294 := Aside0.mk hy294
        clear hy294
        have H' := Aside0.mk H
        clear H
        have hnb99 := NB292_265.out
        have hnc99 := NB265_292.out
        have hnb100 := NB292_266.out
        have hnc100 := NB266_292.out
        have hnb101 := NB292_267.out
        have hnc101 := NB267_292.out
        have hnb102 := NB292_291.out
        have hnc102 := NB291_292.out
        have hcz103_0 := zx_ (v := .int .i64 x293000_3) BK292 0
        have hcz103_1 := zx_ (v := .int .i64 x293001_3) BK292 1
        have hcz103_2 := zx_ (v := .int .u64 x293002_3) BK292 2
        have hfz103_0 := blk_frozen BK292.out 0
        have hfz103_1 := blk_frozen BK292.out 1
        have hfz103_2 := blk_frozen BK292.out 2
        try go_wp2
        replace HO_292000 := Aside0.mk (Kd.R_drew HO_292000.out)
        replace HO_292001 := Aside0.mk (Kd.R_drew HO_292001.out)
        replace BK265 := Aside0.mk (blk_drew BK265.out)
        replace BK266 := Aside0.mk (blk_drew BK266.out)
        replace BK267 := Aside0.mk (blk_drew BK267.out)
        replace BK291 := Aside0.mk (blk_drew BK291.out)
        replace BK292 := Aside0.mk (blk_drew BK292.out)
        replace HB := Aside0.mk (below_drew1 HB.out)
        refine start_ (n := 6) (S := fun w' => w'.cell? ⟨gb291, 0, none⟩ = some (.slice Ao64 t284.length co64) ∧ w'.cell? ⟨gb291, 1, none⟩ = some (u292001)) (ds := [5]) #[false, false, false, false, false, false] (by kernel_rfl) rfl rfl ⟨(blk_cell BK291.out 0).trans rfl, (blk_cell BK291.out 1).trans rfl⟩ (fun hHeld => ?_)
        generalize wr.drew = w104 at HO_292000 HO_292001 BK265 BK266 BK267 BK291 BK292 HB hHeld ⊢
        refine pure_ (i := 0) (N := some 171) (v := ?_) (a' := ?_) #[true, false, false, false, false, false] rfl rfl (by kernel_rfl) (fun _ _ _ h => h) (Or.inl ⟨by rfl, ?_⟩) ?_ ?_
        rotate_left
        ·intro w'
         go_simp
         with_reducible rfl
        rotate_left
        ·simp only [Act.put, List.setIfInBounds_toArray, List.set_cons_zero, List.set_cons_succ, i64_w, i32_w]
         rfl
        refine pure_ (i := 2) (N := some 173) (v := ?_) (a' := ?_) #[true, false, true, false, false, false] rfl rfl (by kernel_rfl) (fun _ _ _ h => h) (Or.inl ⟨by rfl, ?_⟩) ?_ ?_
        rotate_left
        ·intro w'
         go_simp
         with_reducible rfl
        rotate_left
        ·simp only [Act.put, List.setIfInBounds_toArray, List.set_cons_zero, List.set_cons_succ, i64_w, i32_w]
         rfl
        refine take_ (i := 1) (N := some 172) (v := ?_) (a' := ?_) #[true, true, true, false, false, false] rfl rfl (by kernel_rfl) (fun _ _ _ h => h) (Or.inl ⟨by rfl, ?_⟩) hHeld ?_ ?_
        rotate_left
        ·rintro w' ⟨s0, s1⟩
         go_simp
         with_reducible rfl
        rotate_left
        ·simp only [Act.put, List.setIfInBounds_toArray, List.set_cons_zero, List.set_cons_succ, i64_w, i32_w]
         rfl
        refine one_ (i := 3) (N := some 174) #[true, true, true, true, false, false] rfl rfl (by kernel_rfl) (by decide) (fun K hK => ?_)
        refine yg_ Try.func31 #[.pointer (some ⟨gb292, 0, none⟩), .int .i64 32] ?_
        with_reducible refine (wide_Acc_Fix.calls k3 gb292 x293000_3 x293001_3 x293002_3 32 t293 _ (zb_ BK292) A95.out).mono ?_
        rintro e w105 ⟨rfl, hb⟩
        refine ⟨_, rfl, ?_⟩
        replace HO_292000 := zy_ HO_292000 hb
        replace HO_292001 := zy_ HO_292001 hb
        replace BK265 := za_ BK265 hb
        replace BK266 := za_ BK266 hb
        replace BK267 := za_ BK267 hb
        replace BK291 := za_ BK291 hb
        replace BK292 := za_ BK292 hb
        replace HB := Aside0.mk (below_step (zw5_ HB GE265 GE266 GE267 GE291 GE292) hb)
        (try clear hb)
        (try clear hb2)
        (try clear hk)
        (try clear hi)
        have p98 : 0 ≤ (x110_2 : Int) := of_decide_eq_true (by first | (with_reducible assumption) | assumption)
        have q98 : (x110_2 : Int) < ((x292001_2.length : Int) : Int) := of_decide_eq_true (by first | (with_reducible assumption) | assumption)
        obtain ⟨go98, co98, eo98, gb98, gl98, cl98, HG98⟩ := Kd.R_form HO_292001.out (by omega)
        (first | cases eo98 | (injection eo98 with ea_ en_ ec_; (first | subst ea_ | (injection ea_ with ea_; subst ea_)); subst ec_; clear en_))
        have GB98 := Aside0.mk gb98
        have GG98 := Aside0.mk HG98
        clear gb98 gl98 HG98
        obtain ⟨hx98_0, hf98_0⟩ := Kd.R_celln 0 HO_292001.out (x110_2 : Int) p98 q98
        replace p98 := eq_true p98
        replace q98 := eq_true q98
        have HP106 := Kd.R_putn HO_292001.out (x110_2 : Int) t293
        rw [← Ny294.out] at HP106
        have HQ106 := Aside0.mk HP106
        clear HP106
        refine hK.out _ _ ⟨zx_ BK291 0, zx_ BK291 1⟩ (fun hHeld => ?_)
        clear hK K
        refine zq_ (some 174) (h := ?_)
        refine pure_ (i := 4) (N := some 175) (v := ?_) (a' := ?_) #[true, true, true, true, true, false] rfl rfl (by kernel_rfl) (fun _ _ _ h => h) (Or.inl ⟨by rfl, ?_⟩) ?_ ?_
        rotate_left
        ·intro w'
         go_simp
         with_reducible rfl
        rotate_left
        ·simp only [Act.put, List.setIfInBounds_toArray, List.set_cons_zero, List.set_cons_succ, i64_w, i32_w]
         rfl
        refine last_ (i := 5) (N := none) #[true, true, true, true, true, true] rfl rfl (by kernel_rfl) (by decide) (fun K hK => ?_)
        refine skip_ (w1 := ?_) (by rfl) rfl ?_ ?_
        rotate_left
        ·go_simp
         rfl
        refine hK.out _ _ ?_
        clear hK K
        refine done_ (by kernel_rfl) ?_
        try go_wp2
        go_roundg k3
        case measure => have := HJ4.out; have := HK2.out; have := HK3.out; omega
        case rel => exact ⟨(wrap64 (x110_2 + 1)), (y294), (.slice (some ⟨go98, 0, none⟩) x292001_2.length co98), z1_, H', ⟨by have := HJ4.out; have := HK2.out; have := HK3.out; omega⟩, ⟨zr_ (Kd.R_mono (Kd.R_far (p := ⟨go98, (x110_2 : Int).toNat, none⟩) (Kd.R_types HO_292000.out GG98.out (by decide)) (fun _ hk => hk.2) (.int .i64 t293)) (fun _ hk => trivial))⟩, ⟨zr_ HQ106.out⟩, ⟨by (with_reducible repeat (first | refine blk_drewN ?_ _ | refine blk_drew ?_ | refine blk_alloc ?_ _)); refine blk_far ?_ (by have h_ := Kd.R_ne HO_292001.out BK265.out (by decide); intro e_; exact h_ (by rw [e_]; rfl)) _; (with_reducible repeat (first | refine blk_drewN ?_ _ | refine blk_drew ?_ | refine blk_alloc ?_ _)); exact BK265.out⟩, ⟨by (with_reducible repeat (first | refine blk_drewN ?_ _ | refine blk_drew ?_ | refine blk_alloc ?_ _)); refine blk_far ?_ (by have h_ := Kd.R_ne HO_292001.out BK266.out (by decide); intro e_; exact h_ (by rw [e_]; rfl)) _; (with_reducible repeat (first | refine blk_drewN ?_ _ | refine blk_drew ?_ | refine blk_alloc ?_ _)); exact BK266.out⟩, ⟨by (with_reducible repeat (first | refine blk_drewN ?_ _ | refine blk_drew ?_ | refine blk_alloc ?_ _)); refine blk_far ?_ (by have h_ := Kd.R_ne HO_292001.out BK267.out (by decide); intro e_; exact h_ (by rw [e_]; rfl)) _; (with_reducible repeat (first | refine blk_drewN ?_ _ | refine blk_drew ?_ | refine blk_alloc ?_ _)); exact BK267.out⟩, ⟨by (with_reducible repeat (first | refine blk_drewN ?_ _ | refine blk_drew ?_ | refine blk_alloc ?_ _)); refine blk_far ?_ (by have h_ := Kd.R_ne HO_292001.out BK291.out (by decide); intro e_; exact h_ (by rw [e_]; rfl)) _; (with_reducible repeat (first | refine blk_drewN ?_ _ | refine blk_drew ?_ | refine blk_alloc ?_ _)); exact BK291.out⟩, ⟨by repeat (first | (with_reducible first | exact HB.out | apply below_alloc | apply pw_below_drewN | apply below_drew1 | refine below_set ?_ GB98.out | refine below_set ?_ GE265.out | refine below_set ?_ GE266.out | refine below_set ?_ GE267.out | refine below_set ?_ GE291.out | refine below_set ?_ GE292.out) | exact HB.out)⟩⟩
       rw [if_pos c74] at H
       have c74b0 : decide (x120_3 < (rd l1_0 0)) = true := decide_eq_true c74
       clear c74
       obtain ⟨ji75, hji75⟩ : ∃ j_ : Int, (mn (rd l1_0 2) (wrap64 ((Int.tmod x110_2 a3) + 1))) = j_ := ⟨_, rfl⟩
       replace H : (conv_BackIn.l2 k3 a2 a3 (rd l1_0 0) (rd l1_0 1) (rd l1_0 2) (rd l0_0 1) x110_2 (wrap64 (Int.tdiv x110_2 a3)) (Int.tmod x110_2 a3) x120_3 (t287.length : Int) x110_2 (rd l1_0 0) x120_3 ji75 0 l0_0 l0_1 l1_0 l1_1 t284 x292001_2 x293000_3 x293001_3 x293002_3) = some (r1, r2, r3) := by first | (rw [hji75] at H; exact H) | (simp only [hji75] at H ⊢; exact H)
       have hji75_ : (if (wrap64 ((Int.tmod x110_2 a3) + 1)) < (rd l1_0 2) then (wrap64 ((Int.tmod x110_2 a3) + 1)) else (rd l1_0 2)) = ji75 := hji75
       have H' := Aside0.mk H
       clear H
       go_wp2
       go_loopg [127] k3 (fun kq v127 w' => ∃ (x127_4 : Int) (x293000_4 : Int) (x293001_4 : Int) (x293002_4 : Int), v127 = .int .i64 x127_4 ∧ Aside0 (conv_BackIn.l2 kq a2 a3 (rd l1_0 0) (rd l1_0 1) (rd l1_0 2) (rd l0_0 1) x110_2 (wrap64 (Int.tdiv x110_2 a3)) (Int.tmod x110_2 a3) x120_3 (t287.length : Int) x110_2 (rd l1_0 0) x120_3 ji75 x127_4 l0_0 l0_1 l1_0 l1_1 t284 x292001_2 x293000_4 x293001_4 x293002_4 = some (r1, r2, r3)) ∧ Aside0 (kq ≤ k3) ∧ Aside0 (Kd.R (Kd.int .i64) 3 w' w.heap.size (fun _ => True) (.slice Ao64 t284.length co64) t284) ∧ Aside0 (Kd.R (Kd.int .i64) 33 w' w.heap.size (fun _ => True) u292001 x292001_2) ∧ Aside0 (w'.heap[gb265]? = some (.cells #[(.slice (some ad273) l0_0.length c0_0), (.slice A0_1 l0_1.length c0_1)] 25 (0, 0))) ∧ Aside0 (w'.heap[gb266]? = some (.cells #[(.slice (some ad272) l1_0.length c1_0), (.slice A1_1 l1_1.length c1_1)] 25 (0, 0))) ∧ Aside0 (w'.heap[gb267]? = some (.cells #[(.slice none 0 0), (.slice none 0 0)] 25 (0, 0))) ∧ Aside0 (w'.heap[gb291]? = some (.cells #[(.slice Ao64 t284.length co64), u292001] 25 (0, 0))) ∧ Aside0 (w'.heap[gb292]? = some (.cells #[.int .i64 x293000_4, .int .i64 x293001_4, .int .u64 x293002_4] 54 (0, 0))) ∧ Aside0 (Below w.heap.size w w'))
       case atStart => exact ⟨(0), (x293000_3), (x293001_3), (x293002_3), z1_, H', ⟨Nat.le_refl _⟩, ⟨zr_ HO_292000.out⟩, ⟨zr_ HO_292001.out⟩, ⟨zb_ BK265⟩, ⟨zb_ BK266⟩, ⟨zb_ BK267⟩, ⟨zb_ BK291⟩, ⟨zb_ BK292⟩, ⟨zw5_ HB GE265 GE266 GE267 GE291 GE292⟩⟩
       case round =>
        clear H'
        try clear c1
        try clear c2
        try clear p2
        try clear q2
        try clear hx2
        try clear qi2
        try clear c6
        try clear p6
        try clear c7
        try clear p27
        try clear q27
        try clear hx27
        try clear qi27
        try clear c28
        try clear p28
        try clear q28
        try clear hx28
        try clear qi28
        try clear c29
        try clear p64
        try clear c65
        try clear c66
        try clear c67
        try clear c70
        try clear c70b0
        try clear c71
        try clear c71b0
        try clear c71b1
        try clear c74
        try clear c74b0
        try clear hcz68_0
        try clear hcz68_1
        try clear hfz68_0
        try clear hfz68_1
        try clear hx272_0
        try clear hx273_0
        try clear hx274_0
        try clear hx276_0
        try clear hx277_0
        try clear hx278_0
        try clear hx279_0
        try clear hx280_0
        try clear p2
        try clear p27
        try clear p272
        try clear p273
        try clear p274
        try clear p276
        try clear p277
        try clear p278
        try clear p279
        try clear p28
        try clear p280
        try clear p6
        try clear p64
        try clear q2
        try clear q27
        try clear q272
        try clear q273
        try clear q274
        try clear q276
        try clear q277
        try clear q278
        try clear q279
        try clear q28
        try clear q280
        obtain ⟨x127_4, x293000_4, x293001_4, x293002_4, rfl, HA, HK4, HO_292000, HO_292001, BK265, BK266, BK267, BK291, BK292, HB⟩ := hrel
        cases gk with
        | zero => exact absurd HA.out (by simp [conv_BackIn.l2])
        | succ k4 =>
         have H := HA.out
         clear HA
         simp only [conv_BackIn.l2] at H
         by_cases c76 : x127_4 < ji75
         rotate_left
         ·rw [if_neg c76] at H
          have c76b0 : decide (x127_4 < ji75) = false := decide_eq_false c76
          clear c76
          have H' := Aside0.mk H
          clear H
          go_wp2
          go_roundg k4
          case measure => have := HJ4.out; have := HK2.out; have := HK3.out; have := HK4.out; omega
          case rel => exact ⟨(wrap64 (x120_3 + 1)), (x293000_4), (x293001_4), (x293002_4), z1_, H', ⟨by have := HJ4.out; have := HK2.out; have := HK3.out; have := HK4.out; omega⟩, ⟨zr_ HO_292000.out⟩, ⟨zr_ HO_292001.out⟩, ⟨zb_ BK265⟩, ⟨zb_ BK266⟩, ⟨zb_ BK267⟩, ⟨zb_ BK291⟩, ⟨zb_ BK292⟩, ⟨zw5_ HB GE265 GE266 GE267 GE291 GE292⟩⟩
         rw [if_pos c76] at H
         have c76b0 : decide (x127_4 < ji75) = true := decide_eq_true c76
         clear c76
         by_cases c77 : a2 = 0
         ·rw [if_pos c77] at H
          exact absurd H (by simp)
         rw [if_neg c77] at H
         have c77b0 : (a2 == 0) = false := beq_eq_false_iff_ne.mpr c77
         have c77b1 : (a2 != 0) = true := bne_iff_ne.mpr c77
         by_cases c78 : (Int.tmod (wrap64 ((Int.tmod x110_2 a3) - x127_4)) a2) = 0
         rotate_left
         ·rw [if_neg c78] at H
          have c78b0 : ((Int.tmod (wrap64 ((Int.tmod x110_2 a3) - x127_4)) a2) == 0) = false := beq_eq_false_iff_ne.mpr c78
          have c78b1 : ((Int.tmod (wrap64 ((Int.tmod x110_2 a3) - x127_4)) a2) != 0) = true := bne_iff_ne.mpr c78
          have H' := Aside0.mk H
          clear H
          go_wp2
          go_roundg k4
          case measure => have := HJ4.out; have := HK2.out; have := HK3.out; have := HK4.out; omega
          case rel => exact ⟨(wrap64 (x127_4 + 1)), (x293000_4), (x293001_4), (x293002_4), z1_, H', ⟨by have := HJ4.out; have := HK2.out; have := HK3.out; have := HK4.out; omega⟩, ⟨zr_ HO_292000.out⟩, ⟨zr_ HO_292001.out⟩, ⟨zb_ BK265⟩, ⟨zb_ BK266⟩, ⟨zb_ BK267⟩, ⟨zb_ BK291⟩, ⟨zb_ BK292⟩, ⟨zw5_ HB GE265 GE266 GE267 GE291 GE292⟩⟩
         rw [if_pos c78] at H
         have c78b0 : ((Int.tmod (wrap64 ((Int.tmod x110_2 a3) - x127_4)) a2) == 0) = true := beq_iff_eq.mpr c78
         have c78b1 : ((Int.tmod (wrap64 ((Int.tmod x110_2 a3) - x127_4)) a2) != 0) = false := bne_eq_false_iff_eq.mpr c78
         clear c78
         by_cases c79 : (wrap64 (Int.tdiv (wrap64 ((Int.tmod x110_2 a3) - x127_4)) a2)) < (rd l0_0 1)
         rotate_left
         ·rw [if_neg c79] at H
          have c79b0 : decide ((wrap64 (Int.tdiv (wrap64 ((Int.tmod x110_2 a3) - x127_4)) a2)) < (rd l0_0 1)) = false := decide_eq_false c79
          clear c79
          have H' := Aside0.mk H
          clear H
          go_wp2
          go_roundg k4
          case measure => have := HJ4.out; have := HK2.out; have := HK3.out; have := HK4.out; omega
          case rel => exact ⟨(wrap64 (x127_4 + 1)), (x293000_4), (x293001_4), (x293002_4), z1_, H', ⟨by have := HJ4.out; have := HK2.out; have := HK3.out; have := HK4.out; omega⟩, ⟨zr_ HO_292000.out⟩, ⟨zr_ HO_292001.out⟩, ⟨zb_ BK265⟩, ⟨zb_ BK266⟩, ⟨zb_ BK267⟩, ⟨zb_ BK291⟩, ⟨zb_ BK292⟩, ⟨zw5_ HB GE265 GE266 GE267 GE291 GE292⟩⟩
         rw [if_pos c79] at H
         have c79b0 : decide ((wrap64 (Int.tdiv (wrap64 ((Int.tmod x110_2 a3) - x127_4)) a2)) < (rd l0_0 1)) = true := decide_eq_true c79
         clear c79
         obtain ⟨ji80, hji80⟩ : ∃ j_ : Int, (wrap64 ((wrap64 (x120_3 * (rd l0_0 1))) + (wrap64 (Int.tdiv (wrap64 ((Int.tmod x110_2 a3) - x127_4)) a2)))) = j_ := ⟨_, rfl⟩
         replace H : (if 0 ≤ (ji80) then (if (ji80) < (l0_1.length : Int) then (if 0 ≤ (wrap64 ((wrap64 ((wrap64 ((wrap64 (x120_3 * (rd l1_0 1))) + (wrap64 (Int.tdiv x110_2 a3)))) * (rd l1_0 2))) + x127_4)) then (if (wrap64 ((wrap64 ((wrap64 ((wrap64 (x120_3 * (rd l1_0 1))) + (wrap64 (Int.tdiv x110_2 a3)))) * (rd l1_0 2))) + x127_4)) < (l1_1.length : Int) then ((wide_Acc_Plus.f x293000_4 x293001_4 x293002_4 (rd l0_1 (ji80)) (rd l1_1 (wrap64 ((wrap64 ((wrap64 ((wrap64 (x120_3 * (rd l1_0 1))) + (wrap64 (Int.tdiv x110_2 a3)))) * (rd l1_0 2))) + x127_4)))).bind fun bt297 => (conv_BackIn.l2 k4 a2 a3 (rd l1_0 0) (rd l1_0 1) (rd l1_0 2) (rd l0_0 1) x110_2 (wrap64 (Int.tdiv x110_2 a3)) (Int.tmod x110_2 a3) x120_3 (t287.length : Int) x110_2 (rd l1_0 0) x120_3 ji75 (wrap64 (x127_4 + 1)) l0_0 l0_1 l1_0 l1_1 t284 x292001_2 bt297.1 bt297.2.1 bt297.2.2)) else (none)) else (none)) else (none)) else (none)) = some (r1, r2, r3) := by first | (rw [hji80] at H; exact H) | (simp only [hji80] at H ⊢; exact H)
         have hji80w : (IntKind.i64.wrap ((wrap64 (x120_3 * (rd l0_0 1))) + (wrap64 (Int.tdiv (wrap64 ((Int.tmod x110_2 a3) - x127_4)) a2)))) = ji80 := (i64_w _).trans hji80
         by_cases c81 : 0 ≤ (ji80)
         rotate_left
         ·rw [if_neg c81] at H
          exact absurd H (by simp)
         rw [if_pos c81] at H
         have c81b0 : decide (0 ≤ (ji80)) = true := decide_eq_true c81
         clear c81
         by_cases c82 : (ji80) < (l0_1.length : Int)
         rotate_left
         ·rw [if_neg c82] at H
          exact absurd H (by simp)
         rw [if_pos c82] at H
         have c82b0 : decide ((ji80) < (l0_1.length : Int)) = true := decide_eq_true c82
         clear c82
         obtain ⟨ji83, hji83⟩ : ∃ j_ : Int, (wrap64 ((wrap64 ((wrap64 ((wrap64 (x120_3 * (rd l1_0 1))) + (wrap64 (Int.tdiv x110_2 a3)))) * (rd l1_0 2))) + x127_4)) = j_ := ⟨_, rfl⟩
         replace H : (if 0 ≤ (ji83) then (if (ji83) < (l1_1.length : Int) then ((wide_Acc_Plus.f x293000_4 x293001_4 x293002_4 (rd l0_1 (ji80)) (rd l1_1 (ji83))).bind fun bt297 => (conv_BackIn.l2 k4 a2 a3 (rd l1_0 0) (rd l1_0 1) (rd l1_0 2) (rd l0_0 1) x110_2 (wrap64 (Int.tdiv x110_2 a3)) (Int.tmod x110_2 a3) x120_3 (t287.length : Int) x110_2 (rd l1_0 0) x120_3 ji75 (wrap64 (x127_4 + 1)) l0_0 l0_1 l1_0 l1_1 t284 x292001_2 bt297.1 bt297.2.1 bt297.2.2)) else (none)) else (none)) = some (r1, r2, r3) := by first | (rw [hji83] at H; exact H) | (simp only [hji83] at H ⊢; exact H)
         have hji83w : (IntKind.i64.wrap ((wrap64 ((wrap64 ((wrap64 (x120_3 * (rd l1_0 1))) + (wrap64 (Int.tdiv x110_2 a3)))) * (rd l1_0 2))) + x127_4)) = ji83 := (i64_w _).trans hji83
         by_cases c84 : 0 ≤ (ji83)
         rotate_left
         ·rw [if_neg c84] at H
          exact absurd H (by simp)
         rw [if_pos c84] at H
         have c84b0 : decide (0 ≤ (ji83)) = true := decide_eq_true c84
         clear c84
         by_cases c85 : (ji83) < (l1_1.length : Int)
         rotate_left
         ·rw [if_neg c85] at H
          exact absurd H (by simp)
         rw [if_pos c85] at H
         have c85b0 : decide ((ji83) < (l1_1.length : Int)) = true := decide_eq_true c85
         clear c85
         replace H := Option.bind_eq_some_iff.mp H
         obtain ⟨⟨t297, t298, t299⟩, A860, H⟩ := H
         (try dsimp only at H)
         have A86 := Aside0.mk A860
         clear A860
         have H' := Aside0.mk H
         clear H
         have hnb87 := NB292_265.out
         have hnc87 := NB265_292.out
         have hnb88 := NB292_266.out
         have hnc88 := NB266_292.out
         have hnb89 := NB292_267.out
         have hnc89 := NB267_292.out
         have hnb90 := NB292_291.out
         have hnc90 := NB291_292.out
         have hcz91_0 := zx_ (v := .int .i64 x293000_4) BK292 0
         have hcz91_1 := zx_ (v := .int .i64 x293001_4) BK292 1
         have hcz91_2 := zx_ (v := .int .u64 x293002_4) BK292 2
         have hfz91_0 := blk_frozen BK292.out 0
         have hfz91_1 := blk_frozen BK292.out 1
         have hfz91_2 := blk_frozen BK292.out 2
         try go_wp2
         replace HO_292000 := Aside0.mk (Kd.R_drew HO_292000.out)
         replace HO_292001 := Aside0.mk (Kd.R_drew HO_292001.out)
         replace BK265 := Aside0.mk (blk_drew BK265.out)
         replace BK266 := Aside0.mk (blk_drew BK266.out)
         replace BK267 := Aside0.mk (blk_drew BK267.out)
         replace BK291 := Aside0.mk (blk_drew BK291.out)
         replace BK292 := Aside0.mk (blk_drew BK292.out)
         replace HB := Aside0.mk (below_drew1 HB.out)
         have p295 : 0 ≤ ((ji80) : Int) := of_decide_eq_true (by first | (with_reducible assumption) | assumption)
         have q295 : (ji80) < (l0_1.length : Int) := of_decide_eq_true (by first | (with_reducible assumption) | assumption)
         obtain ⟨ad295, e295, hx295_0⟩ := Kd.at_int HR0_1.out (ji80) p295 q295
         have hw295_0 := hx295_0
         cases e295
         replace hx295_0 := (HB.out.cell (World.block_lt_of_cell? w _ hx295_0)).trans hx295_0
         replace p295 := eq_true p295
         replace q295 := eq_true q295
         have p296 : 0 ≤ ((ji83) : Int) := of_decide_eq_true (by first | (with_reducible assumption) | assumption)
         have q296 : (ji83) < (l1_1.length : Int) := of_decide_eq_true (by first | (with_reducible assumption) | assumption)
         obtain ⟨ad296, e296, hx296_0⟩ := Kd.at_int HR1_1.out (ji83) p296 q296
         have hw296_0 := hx296_0
         cases e296
         replace hx296_0 := (HB.out.cell (World.block_lt_of_cell? w _ hx296_0)).trans hx296_0
         replace p296 := eq_true p296
         replace q296 := eq_true q296
         refine start_ (n := 23) (S := fun w' => w'.cell? ⟨gb265, 0, none⟩ = some (.slice (some ad273) l0_0.length c0_0) ∧ w'.cell? ⟨gb265, 1, none⟩ = some (.slice (some ad295) l0_1.length c0_1) ∧ w'.cell? ⟨gb266, 0, none⟩ = some (.slice (some ad272) l1_0.length c1_0) ∧ w'.cell? ⟨gb266, 1, none⟩ = some (.slice (some ad296) l1_1.length c1_1) ∧ w'.cell? (ad295.add ((ji80)).toNat) = some (.int .i64 (rd l0_1 (ji80))) ∧ w'.cell? (ad296.add ((ji83)).toNat) = some (.int .i64 (rd l1_1 (ji83)))) (ds := [22]) #[false, false, false, false, false, false, false, false, false, false, false, false, false, false, false, false, false, false, false, false, false, false, false] (by kernel_rfl) rfl rfl ⟨(blk_cell BK265.out 0).trans rfl, (blk_cell BK265.out 1).trans rfl, (blk_cell BK266.out 0).trans rfl, (blk_cell BK266.out 1).trans rfl, ((HB.out.cell (World.block_lt_of_cell? w _ hw295_0)).trans hw295_0), ((HB.out.cell (World.block_lt_of_cell? w _ hw296_0)).trans hw296_0)⟩ (fun hHeld => ?_); refine with_tabW conv_BackIn.tab22 conv_BackIn.bits22 (fun HT_ HW_ => ?_)
         generalize wr.drew = w92 at HO_292000 HO_292001 BK265 BK266 BK267 BK291 BK292 HB hx295_0 hx296_0 hHeld ⊢
         refine yp_ ?_ 0 146
         refine yp_ ?_ 2 148
         refine yp_ ?_ 3 149
         refine yp_ ?_ 4 150
         refine yp_ ?_ 5 151
         refine yp_ ?_ 6 152
         refine yp_ ?_ 9 155
         refine yp_ ?_ 11 157
         refine yp_ ?_ 12 158
         refine yp_ ?_ 13 159
         refine yp_ ?_ 14 160
         refine yp_ ?_ 15 161
         refine yp_ ?_ 16 162
         refine yp_ ?_ 17 163
         refine yp_ ?_ 18 164
         refine yp_ ?_ 19 165
         refine yt6_ ?_ 1 147
         refine yp_ ?_ 7 153
         refine yt6_ ?_ 8 154
         refine yt6_ ?_ 10 156
         refine yp_ ?_ 20 166
         refine yt6_ ?_ 21 167
         refine yl_ 22 (some 168) (fun K hK => ?_)
         refine goes_ Try.func30 (by kernel_rfl) rfl #[.pointer (some ⟨gb292, 0, none⟩), .int .i64 (rd l0_1 (ji80)), .int .i64 (rd l1_1 (ji83))] (by rfl) rfl rfl (by (try simp only [List.map_toArray, List.map_cons, List.map_nil]); first | done | (simp only [hji80, hji83]; rfl) | rfl | (simp only [List.length_drop, List.length_take]; rfl)) ?_
         with_reducible refine (wide_Acc_Plus.calls gb292 x293000_4 x293001_4 x293002_4 (rd l0_1 (ji80)) (rd l1_1 (ji83)) t297 t298 t299 _ (zb_ BK292) A86.out).mono ?_
         rintro e _ ⟨rfl, w93, hb, rfl⟩
         refine ⟨_, rfl, ?_⟩
         replace HO_292000 := zy_ HO_292000 hb
         replace HO_292001 := zy_ HO_292001 hb
         replace BK265 := za_ BK265 hb
         replace BK266 := za_ BK266 hb
         replace BK267 := za_ BK267 hb
         replace BK291 := za_ BK291 hb
         replace BK292 := za_ BK292 hb
         replace HB := Aside0.mk (below_step (zw5_ HB GE265 GE266 GE267 GE291 GE292) hb)
         (try clear hb)
         (try clear hb2)
         (try clear hk)
         (try clear hi)
         refine hK.out _ _ ?_
         clear hK K
         refine zq_ (some 168) (h := ?_)
         refine done_ (done_of HT_.out (by kernel_rfl)) ?_
         have hcz94_0 := zx_ (v := .int .i64 x293000_4) BK292 0
         have hcz94_1 := zx_ (v := .int .i64 x293001_4) BK292 1
         have hcz94_2 := zx_ (v := .int .u64 x293002_4) BK292 2
         have hfz94_0 := blk_frozen BK292.out 0
         have hfz94_1 := blk_frozen BK292.out 1
         have hfz94_2 := blk_frozen BK292.out 2
         try go_wp2
         go_roundg k4
         case measure => have := HJ4.out; have := HK2.out; have := HK3.out; have := HK4.out; omega
         case rel => exact ⟨(wrap64 (x127_4 + 1)), (t297), (t298), (t299), z1_, H', ⟨by have := HJ4.out; have := HK2.out; have := HK3.out; have := HK4.out; omega⟩, ⟨zr_ (Kd.R_mono (Kd.R_far (p := ⟨gb292, 2, none⟩) (Kd.R_far (p := ⟨gb292, 1, none⟩) (Kd.R_far (p := ⟨gb292, 0, none⟩) (Kd.R_types HO_292000.out BK292.out (by decide)) (fun _ hk => hk.2) (.int .i64 t297)) (fun _ hk => hk.2) (.int .i64 t298)) (fun _ hk => hk.2) (.int .u64 t299)) (fun _ hk => trivial))⟩, ⟨zr_ (Kd.R_mono (Kd.R_far (p := ⟨gb292, 2, none⟩) (Kd.R_far (p := ⟨gb292, 1, none⟩) (Kd.R_far (p := ⟨gb292, 0, none⟩) (Kd.R_types HO_292001.out BK292.out (by decide)) (fun _ hk => hk.2) (.int .i64 t297)) (fun _ hk => hk.2) (.int .i64 t298)) (fun _ hk => hk.2) (.int .u64 t299)) (fun _ hk => trivial))⟩, ⟨zv1_ BK265 NB265_292⟩, ⟨zv1_ BK266 NB266_292⟩, ⟨zv1_ BK267 NB267_292⟩, ⟨zv1_ BK291 NB291_292⟩, ⟨zo3_ BK292⟩, ⟨zw5_ HB GE265 GE266 GE267 GE291 GE292⟩⟩

end Go.Proofs.Ytcipfhlcgnomaaa.PConvKnown
