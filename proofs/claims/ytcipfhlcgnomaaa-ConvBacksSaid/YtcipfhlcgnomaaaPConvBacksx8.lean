/- The functions that the law ConvBacks reaches, as Lean functions, and that each call of the Go function does what its Lean function says, wherever that one answers. Written by a program of mine over the print of the kit; Lean checks it. -/
import Derived.Test.YtcipfhlcgnomaaaPConvBacksx0
import Derived.Test.YtcipfhlcgnomaaaPConvBacksx1
import Derived.Test.YtcipfhlcgnomaaaPConvBacksx2
import Derived.Test.YtcipfhlcgnomaaaPConvBacksx4
import Derived.Test.YtcipfhlcgnomaaaPConvBacksx7
namespace Go.Proofs.Ytcipfhlcgnomaaa.PConvBacks
open Go.RowKit Go.Proofs.YtcipfhlcgnomaaaW.PrintWords Go.Proofs.YtcipfhlcgnomaaaW.PrintLast Go.Proofs.YtcipfhlcgnomaaaW.PrintMore
attribute [local go_sem] max2_int min2_int max_two min_two max_three min_three max_four min_four   -- for this text's walks alone
set_option linter.unusedVariables false
set_option linter.unusedSimpArgs false

/-! ### conv_BackIn: function 22 -/
mutual
def conv_BackIn.j0 : Nat → Int → Int → Bool → List Int → List Int → List Int → List Int → Option (List Int × List Int × Int)
 | 0, _, _, _, _, _, _, _ => none
 | k + 1, x2, x3, x23, x242000, x242001, x243000, x243001 => if x23 = true then (some (([] : List Int), ([] : List Int), 1)) else (if (x242000.length : Int) = 2 then (if (x243000.length : Int) = 3 then (if 0 < (x243000.length : Int) then (if 0 < (x242000.length : Int) then (if (rd x243000 0) = (rd x242000 0) then (if 2 < (x243000.length : Int) then ((conv_windows.f x3 (rd x243000 2) x2).bind fun t251 => (if 1 < (x242000.length : Int) then (if t251 = (rd x242000 1) then (if 1 < (x243000.length : Int) then ((conv_of.f k (([rd x243000 1, x3] : List Int))).bind fun bt260 => (if bt260.2.2 = 0 then (conv_BackIn.l0 k x2 x3 (rd x243000 0) (rd x243000 1) (rd x243000 2) (rd x242000 1) (bt260.2.1.length : Int) 0 x242000 x242001 x243000 x243001 bt260.1 bt260.2.1) else (some (([] : List Int), ([] : List Int), bt260.2.2)))) else (none)) else (some (([] : List Int), ([] : List Int), 4))) else (none))) else (none)) else (some (([] : List Int), ([] : List Int), 4))) else (none)) else (none)) else (some (([] : List Int), ([] : List Int), 4))) else (some (([] : List Int), ([] : List Int), 4)))
def conv_BackIn.l0 : Nat → Int → Int → Int → Int → Int → Int → Int → Int → List Int → List Int → List Int → List Int → List Int → List Int → Option (List Int × List Int × Int)
 | 0, _, _, _, _, _, _, _, _, _, _, _, _, _, _ => none
 | k + 1, x2, x3, x10, x11, x12, x13, x109, x110, x242000, x242001, x243000, x243001, x268000, x268001 => if x110 < x109 then (if x3 = 0 then (none) else (conv_BackIn.l1 k x2 x3 x10 x11 x12 x13 x110 (wrap64 (Int.tdiv x110 x3)) (Int.tmod x110 x3) x109 x110 x10 0 x242000 x242001 x243000 x243001 x268000 x268001 0 0 0)) else (some (x268000, x268001, 0))
def conv_BackIn.l1 : Nat → Int → Int → Int → Int → Int → Int → Int → Int → Int → Int → Int → Int → Int → List Int → List Int → List Int → List Int → List Int → List Int → Int → Int → Int → Option (List Int × List Int × Int)
 | 0, _, _, _, _, _, _, _, _, _, _, _, _, _, _, _, _, _, _, _, _, _, _ => none
 | k + 1, x2, x3, x10, x11, x12, x13, x16, x17, x18, x109, x110, x119, x120, x242000, x242001, x243000, x243001, x268000, x268001, x269000, x269001, x269002 => if x120 < x119 then (conv_BackIn.l2 k x2 x3 x10 x11 x12 x13 x16 x17 x18 x120 x109 x110 x119 x120 (mn x12 (wrap64 (x18 + 1))) 0 x242000 x242001 x243000 x243001 x268000 x268001 x269000 x269001 x269002) else ((wide_Acc_Fix.f k x269000 x269001 x269002 32).bind fun t269 => (if 0 ≤ x16 then (if x16 < (x268001.length : Int) then (conv_BackIn.l0 k x2 x3 x10 x11 x12 x13 x109 (wrap64 (x110 + 1)) x242000 x242001 x243000 x243001 x268000 (x268001.set (x16 : Int).toNat t269)) else (none)) else (none)))
def conv_BackIn.l2 : Nat → Int → Int → Int → Int → Int → Int → Int → Int → Int → Int → Int → Int → Int → Int → Int → Int → List Int → List Int → List Int → List Int → List Int → List Int → Int → Int → Int → Option (List Int × List Int × Int)
 | 0, _, _, _, _, _, _, _, _, _, _, _, _, _, _, _, _, _, _, _, _, _, _, _, _, _ => none
 | k + 1, x2, x3, x10, x11, x12, x13, x16, x17, x18, x20, x109, x110, x119, x120, x126, x127, x242000, x242001, x243000, x243001, x268000, x268001, x269000, x269001, x269002 => if x127 < x126 then (if x2 = 0 then (none) else (if (Int.tmod (wrap64 (x18 - x127)) x2) = 0 then (if (wrap64 (Int.tdiv (wrap64 (x18 - x127)) x2)) < x13 then (if 0 ≤ (wrap64 ((wrap64 (x20 * x13)) + (wrap64 (Int.tdiv (wrap64 (x18 - x127)) x2)))) then (if (wrap64 ((wrap64 (x20 * x13)) + (wrap64 (Int.tdiv (wrap64 (x18 - x127)) x2)))) < (x242001.length : Int) then (if 0 ≤ (wrap64 ((wrap64 ((wrap64 ((wrap64 (x20 * x11)) + x17)) * x12)) + x127)) then (if (wrap64 ((wrap64 ((wrap64 ((wrap64 (x20 * x11)) + x17)) * x12)) + x127)) < (x243001.length : Int) then ((wide_Acc_Plus.f x269000 x269001 x269002 (rd x242001 (wrap64 ((wrap64 (x20 * x13)) + (wrap64 (Int.tdiv (wrap64 (x18 - x127)) x2))))) (rd x243001 (wrap64 ((wrap64 ((wrap64 ((wrap64 (x20 * x11)) + x17)) * x12)) + x127)))).bind fun bt273 => (conv_BackIn.l2 k x2 x3 x10 x11 x12 x13 x16 x17 x18 x20 x109 x110 x119 x120 x126 (wrap64 (x127 + 1)) x242000 x242001 x243000 x243001 x268000 x268001 bt273.1 bt273.2.1 bt273.2.2)) else (none)) else (none)) else (none)) else (none)) else (conv_BackIn.l2 k x2 x3 x10 x11 x12 x13 x16 x17 x18 x20 x109 x110 x119 x120 x126 (wrap64 (x127 + 1)) x242000 x242001 x243000 x243001 x268000 x268001 x269000 x269001 x269002)) else (conv_BackIn.l2 k x2 x3 x10 x11 x12 x13 x16 x17 x18 x20 x109 x110 x119 x120 x126 (wrap64 (x127 + 1)) x242000 x242001 x243000 x243001 x268000 x268001 x269000 x269001 x269002))) else (conv_BackIn.l1 k x2 x3 x10 x11 x12 x13 x16 x17 x18 x109 x110 x119 (wrap64 (x120 + 1)) x242000 x242001 x243000 x243001 x268000 x268001 x269000 x269001 x269002)
end
def conv_BackIn.f (k : Nat) (l0_0 : List Int) (l0_1 : List Int) (l1_0 : List Int) (l1_1 : List Int) (a2 : Int) (a3 : Int) : Option (List Int × List Int × Int) := (tens_Good.f k l0_0 l0_1).bind fun t244 => (if t244 = true then ((tens_Good.f k l1_0 l1_1).bind fun t245 => (if t245 = true then ((conv_stepGood.f a2).bind fun t246 => (if t246 = true then ((conv_sized.f a3).bind fun t247 => (conv_BackIn.j0 k a2 a3 (!t247) l0_0 l0_1 l1_0 l1_1)) else (conv_BackIn.j0 k a2 a3 true l0_0 l0_1 l1_0 l1_1))) else (conv_BackIn.j0 k a2 a3 true l0_0 l0_1 l1_0 l1_1))) else (conv_BackIn.j0 k a2 a3 true l0_0 l0_1 l1_0 l1_1))
theorem conv_BackIn.mono_l : ∀ k, (∀ y0 y1 y2 y3 y4 y5 y6, LeO (conv_BackIn.j0 k y0 y1 y2 y3 y4 y5 y6) (conv_BackIn.j0 (k + 1) y0 y1 y2 y3 y4 y5 y6)) ∧ (∀ y0 y1 y2 y3 y4 y5 y6 y7 y8 y9 y10 y11 y12 y13, LeO (conv_BackIn.l0 k y0 y1 y2 y3 y4 y5 y6 y7 y8 y9 y10 y11 y12 y13) (conv_BackIn.l0 (k + 1) y0 y1 y2 y3 y4 y5 y6 y7 y8 y9 y10 y11 y12 y13)) ∧ (∀ y0 y1 y2 y3 y4 y5 y6 y7 y8 y9 y10 y11 y12 y13 y14 y15 y16 y17 y18 y19 y20 y21, LeO (conv_BackIn.l1 k y0 y1 y2 y3 y4 y5 y6 y7 y8 y9 y10 y11 y12 y13 y14 y15 y16 y17 y18 y19 y20 y21) (conv_BackIn.l1 (k + 1) y0 y1 y2 y3 y4 y5 y6 y7 y8 y9 y10 y11 y12 y13 y14 y15 y16 y17 y18 y19 y20 y21)) ∧ (∀ y0 y1 y2 y3 y4 y5 y6 y7 y8 y9 y10 y11 y12 y13 y14 y15 y16 y17 y18 y19 y20 y21 y22 y23 y24, LeO (conv_BackIn.l2 k y0 y1 y2 y3 y4 y5 y6 y7 y8 y9 y10 y11 y12 y13 y14 y15 y16 y17 y18 y19 y20 y21 y22 y23 y24) (conv_BackIn.l2 (k + 1) y0 y1 y2 y3 y4 y5 y6 y7 y8 y9 y10 y11 y12 y13 y14 y15 y16 y17 y18 y19 y20 y21 y22 y23 y24))
 | 0 => ⟨fun _ _ _ _ _ _ _ r h => by simp [conv_BackIn.j0] at h, fun _ _ _ _ _ _ _ _ _ _ _ _ _ _ r h => by simp [conv_BackIn.l0] at h, fun _ _ _ _ _ _ _ _ _ _ _ _ _ _ _ _ _ _ _ _ _ _ r h => by simp [conv_BackIn.l1] at h, fun _ _ _ _ _ _ _ _ _ _ _ _ _ _ _ _ _ _ _ _ _ _ _ _ _ r h => by simp [conv_BackIn.l2] at h⟩
 | k + 1 => by
  obtain ⟨ih0, ih1, ih2, ih3⟩ := conv_BackIn.mono_l k
  refine ⟨?_, ?_, ?_, ?_⟩
  ·intro y0 y1 y2 y3 y4 y5 y6
   unfold conv_BackIn.j0
   repeat' first
   | (with_reducible exact ih0 _ _ _ _ _ _ _)
   | (with_reducible exact ih1 _ _ _ _ _ _ _ _ _ _ _ _ _ _)
   | (with_reducible exact ih2 _ _ _ _ _ _ _ _ _ _ _ _ _ _ _ _ _ _ _ _ _ _)
   | (with_reducible exact ih3 _ _ _ _ _ _ _ _ _ _ _ _ _ _ _ _ _ _ _ _ _ _ _ _ _)
   | (with_reducible exact conv_of.mono _ _)
   | (with_reducible exact LeO.refl _)
   | (with_reducible exact LeO.none _)
   | (with_reducible refine LeO.ite ?_ ?_)
   | (with_reducible refine LeO.bind ?_ (fun _ => ?_))
   | exact ih0 _ _ _ _ _ _ _
   | exact ih1 _ _ _ _ _ _ _ _ _ _ _ _ _ _
   | exact ih2 _ _ _ _ _ _ _ _ _ _ _ _ _ _ _ _ _ _ _ _ _ _
   | exact ih3 _ _ _ _ _ _ _ _ _ _ _ _ _ _ _ _ _ _ _ _ _ _ _ _ _
   | exact conv_of.mono _ _
   | exact LeO.none _
   | refine LeO.ite ?_ ?_
   | refine LeO.bind ?_ (fun _ => ?_)
  ·intro y0 y1 y2 y3 y4 y5 y6 y7 y8 y9 y10 y11 y12 y13
   unfold conv_BackIn.l0
   repeat' first
   | (with_reducible exact ih0 _ _ _ _ _ _ _)
   | (with_reducible exact ih1 _ _ _ _ _ _ _ _ _ _ _ _ _ _)
   | (with_reducible exact ih2 _ _ _ _ _ _ _ _ _ _ _ _ _ _ _ _ _ _ _ _ _ _)
   | (with_reducible exact ih3 _ _ _ _ _ _ _ _ _ _ _ _ _ _ _ _ _ _ _ _ _ _ _ _ _)
   | (with_reducible exact LeO.refl _)
   | (with_reducible exact LeO.none _)
   | (with_reducible refine LeO.ite ?_ ?_)
   | (with_reducible refine LeO.bind ?_ (fun _ => ?_))
   | exact ih0 _ _ _ _ _ _ _
   | exact ih1 _ _ _ _ _ _ _ _ _ _ _ _ _ _
   | exact ih2 _ _ _ _ _ _ _ _ _ _ _ _ _ _ _ _ _ _ _ _ _ _
   | exact ih3 _ _ _ _ _ _ _ _ _ _ _ _ _ _ _ _ _ _ _ _ _ _ _ _ _
   | exact LeO.none _
   | refine LeO.ite ?_ ?_
   | refine LeO.bind ?_ (fun _ => ?_)
  ·intro y0 y1 y2 y3 y4 y5 y6 y7 y8 y9 y10 y11 y12 y13 y14 y15 y16 y17 y18 y19 y20 y21
   unfold conv_BackIn.l1
   repeat' first
   | (with_reducible exact ih0 _ _ _ _ _ _ _)
   | (with_reducible exact ih1 _ _ _ _ _ _ _ _ _ _ _ _ _ _)
   | (with_reducible exact ih2 _ _ _ _ _ _ _ _ _ _ _ _ _ _ _ _ _ _ _ _ _ _)
   | (with_reducible exact ih3 _ _ _ _ _ _ _ _ _ _ _ _ _ _ _ _ _ _ _ _ _ _ _ _ _)
   | (with_reducible exact wide_Acc_Fix.mono _ _ _ _ _)
   | (with_reducible exact LeO.refl _)
   | (with_reducible exact LeO.none _)
   | (with_reducible refine LeO.ite ?_ ?_)
   | (with_reducible refine LeO.bind ?_ (fun _ => ?_))
   | exact ih0 _ _ _ _ _ _ _
   | exact ih1 _ _ _ _ _ _ _ _ _ _ _ _ _ _
   | exact ih2 _ _ _ _ _ _ _ _ _ _ _ _ _ _ _ _ _ _ _ _ _ _
   | exact ih3 _ _ _ _ _ _ _ _ _ _ _ _ _ _ _ _ _ _ _ _ _ _ _ _ _
   | exact wide_Acc_Fix.mono _ _ _ _ _
   | exact LeO.none _
   | refine LeO.ite ?_ ?_
   | refine LeO.bind ?_ (fun _ => ?_)
  ·intro y0 y1 y2 y3 y4 y5 y6 y7 y8 y9 y10 y11 y12 y13 y14 y15 y16 y17 y18 y19 y20 y21 y22 y23 y24
   unfold conv_BackIn.l2
   repeat' first
   | (with_reducible exact ih0 _ _ _ _ _ _ _)
   | (with_reducible exact ih1 _ _ _ _ _ _ _ _ _ _ _ _ _ _)
   | (with_reducible exact ih2 _ _ _ _ _ _ _ _ _ _ _ _ _ _ _ _ _ _ _ _ _ _)
   | (with_reducible exact ih3 _ _ _ _ _ _ _ _ _ _ _ _ _ _ _ _ _ _ _ _ _ _ _ _ _)
   | (with_reducible exact LeO.refl _)
   | (with_reducible exact LeO.none _)
   | (with_reducible refine LeO.ite ?_ ?_)
   | (with_reducible refine LeO.bind ?_ (fun _ => ?_))
   | exact ih0 _ _ _ _ _ _ _
   | exact ih1 _ _ _ _ _ _ _ _ _ _ _ _ _ _
   | exact ih2 _ _ _ _ _ _ _ _ _ _ _ _ _ _ _ _ _ _ _ _ _ _
   | exact ih3 _ _ _ _ _ _ _ _ _ _ _ _ _ _ _ _ _ _ _ _ _ _ _ _ _
   | exact LeO.none _
   | refine LeO.ite ?_ ?_
   | refine LeO.bind ?_ (fun _ => ?_)
theorem conv_BackIn.mono : ∀ a0 a1 a2 a3 a4 a5 k, LeO (conv_BackIn.f k a0 a1 a2 a3 a4 a5) (conv_BackIn.f (k + 1) a0 a1 a2 a3 a4 a5) := by
 intro a0 a1 a2 a3 a4 a5 k
 obtain ⟨ih0, ih1, ih2, ih3⟩ := conv_BackIn.mono_l k
 unfold conv_BackIn.f
 repeat' first
   | (with_reducible exact ih0 _ _ _ _ _ _ _)
   | (with_reducible exact ih1 _ _ _ _ _ _ _ _ _ _ _ _ _ _)
   | (with_reducible exact ih2 _ _ _ _ _ _ _ _ _ _ _ _ _ _ _ _ _ _ _ _ _ _)
   | (with_reducible exact ih3 _ _ _ _ _ _ _ _ _ _ _ _ _ _ _ _ _ _ _ _ _ _ _ _ _)
   | (with_reducible exact tens_Good.mono _ _ _)
   | (with_reducible exact LeO.refl _)
   | (with_reducible exact LeO.none _)
   | (with_reducible refine LeO.ite ?_ ?_)
   | (with_reducible refine LeO.bind ?_ (fun _ => ?_))
   | exact ih0 _ _ _ _ _ _ _
   | exact ih1 _ _ _ _ _ _ _ _ _ _ _ _ _ _
   | exact ih2 _ _ _ _ _ _ _ _ _ _ _ _ _ _ _ _ _ _ _ _ _ _
   | exact ih3 _ _ _ _ _ _ _ _ _ _ _ _ _ _ _ _ _ _ _ _ _ _ _ _ _
   | exact tens_Good.mono _ _ _
   | exact LeO.none _
   | refine LeO.ite ?_ ?_
   | refine LeO.bind ?_ (fun _ => ?_)
def conv_BackIn.T3 : Bool × List (List Nat × List Nat) := (true, [([], []), ([0], [0]), ([1], [1]), ([2], [2]), ([3], [3]), ([4], [4]), ([5, 4], [4, 5]), ([6, 4], [4, 6]), ([7, 4], [4, 7]), ([4, 8], [4, 8]), ([9, 4], [9]), ([10], [10]), ([11, 10], [10, 11]), ([12, 10], [10, 12]), ([13, 10], [10, 13]), ([10], [10]), ([15, 10], [10, 15]), ([16, 10], [10, 16]), ([17, 10], [10, 17]), ([14, 18, 10], [10, 14, 18]), ([10, 19], [10, 19]), ([20, 10], [20]), ([21], [21]), ([21], [21]), ([23, 21], [21, 23]), ([24, 21], [21, 24]), ([25, 21], [21, 25]), ([21], [21]), ([22, 26, 27, 21, 21], [21, 22, 26, 27]), ([21], [21]), ([29, 21], [21, 29]), ([30, 21], [21, 30]), ([31, 21], [21, 31]), ([28, 32, 21], [21, 28, 32]), ([21, 33], [21, 33]), ([34, 28], [34])])
def conv_BackIn.B3 : List Nat := [0, 1, 3, 7, 15, 31, 63, 127, 255, 511, 1023, 2047, 4095, 8191, 16383, 2047, 34815, 100351, 231423, 524287, 1048575, 2097151, 4194303, 4194303, 12582911, 29360127, 62914559, 4194303, 268435455, 4194303, 541065215, 1614807039, 3762290687, 8589934591, 17179869183, 34359738367]
theorem conv_BackIn.tab3 : rtab .any (opsOf Try.f22 3) = conv_BackIn.T3 := by kernel_rfl
theorem conv_BackIn.bits3 : waitsOk conv_BackIn.T3.2 conv_BackIn.B3 = true := by kernel_rfl
def conv_BackIn.T5 : Bool × List (List Nat × List Nat) := (true, [([], []), ([0], [0]), ([1], [1]), ([2], [2]), ([], []), ([4], [4]), ([5], [5]), ([6], [6]), ([], []), ([8], [8]), ([9], [9]), ([10], [10]), ([], []), ([12], [12]), ([13], [13]), ([14], [14]), ([3, 0, 1, 2, 3], [3]), ([7, 16, 0, 1, 2, 3, 4, 5, 6, 7, 16], [7]), ([11, 17, 0, 1, 2, 3, 4, 5, 6, 7, 8, 9, 10, 11, 16, 17], [11]), ([15, 18, 0, 1, 2, 3, 4, 5, 6, 7, 8, 9, 10, 11, 12, 13, 14, 15, 16, 17, 18], [15])])
def conv_BackIn.B5 : List Nat := [0, 1, 3, 7, 0, 16, 48, 112, 0, 256, 768, 1792, 0, 4096, 12288, 28672, 15, 65791, 200703, 524287]
theorem conv_BackIn.tab5 : rtab .any (opsOf Try.f22 5) = conv_BackIn.T5 := by kernel_rfl
theorem conv_BackIn.bits5 : waitsOk conv_BackIn.T5.2 conv_BackIn.B5 = true := by kernel_rfl
def conv_BackIn.T12 : Bool × List (List Nat × List Nat) := (true, [([], []), ([], []), ([0, 1], [0, 1]), ([], []), ([], []), ([3, 4], [3, 4]), ([2, 0, 1, 2], [2]), ([5, 6, 0, 1, 2, 3, 4, 5, 6], [5])])
def conv_BackIn.B12 : List Nat := [0, 0, 3, 0, 0, 24, 7, 127]
theorem conv_BackIn.tab12 : rtab .any (opsOf Try.f22 12) = conv_BackIn.T12 := by kernel_rfl
theorem conv_BackIn.bits12 : waitsOk conv_BackIn.T12.2 conv_BackIn.B12 = true := by kernel_rfl
def conv_BackIn.T22 : Bool × List (List Nat × List Nat) := (true, [([], []), ([0], [0]), ([], []), ([], []), ([2, 3], [2, 3]), ([], []), ([4, 5], [4, 5]), ([1, 6], [1, 6]), ([7], [7]), ([], []), ([9], [9]), ([], []), ([], []), ([11, 12], [11, 12]), ([], []), ([13, 14], [13, 14]), ([], []), ([15, 16], [15, 16]), ([], []), ([17, 18], [17, 18]), ([10, 19], [10, 19]), ([20], [20]), ([8, 21], [8, 21])])
def conv_BackIn.B22 : List Nat := [0, 1, 0, 0, 12, 0, 60, 127, 255, 0, 512, 0, 0, 6144, 0, 30720, 0, 129024, 0, 522240, 1048064, 2096640, 4194303]
theorem conv_BackIn.tab22 : rtab .any (opsOf Try.f22 22) = conv_BackIn.T22 := by kernel_rfl
theorem conv_BackIn.bits22 : waitsOk conv_BackIn.T22.2 conv_BackIn.B22 = true := by kernel_rfl
set_option maxHeartbeats 8000000 in
set_option maxRecDepth 100000 in
theorem conv_BackIn.calls (k : Nat) (A0_0 : Option Addr) (c0_0 : Nat) (l0_0 : List Int) (A0_1 : Option Addr) (c0_1 : Nat) (l0_1 : List Int) (A1_0 : Option Addr) (c1_0 : Nat) (l1_0 : List Int) (A1_1 : Option Addr) (c1_1 : Nat) (l1_1 : List Int) (a2 : Int) (a3 : Int) (r1 : List Int) (r2 : List Int) (r3 : Int) (w : World) (hr0_0 : Kd.C (Kd.int .i64) w A0_0 l0_0.length l0_0) (hc0_0 : l0_0.length ≤ c0_0) (hr0_1 : Kd.C (Kd.int .i64) w A0_1 l0_1.length l0_1) (hc0_1 : l0_1.length ≤ c0_1) (hr1_0 : Kd.C (Kd.int .i64) w A1_0 l1_0.length l1_0) (hc1_0 : l1_0.length ≤ c1_0) (hr1_1 : Kd.C (Kd.int .i64) w A1_1 l1_1.length l1_1) (hc1_1 : l1_1.length ≤ c1_1) (h : conv_BackIn.f k l0_0 l0_1 l1_0 l1_1 a2 a3 = some (r1, r2, r3)) :
  Calls Try.prog 22 #[.agg #[.slice A0_0 l0_0.length c0_0, .slice A0_1 l0_1.length c0_1], .agg #[.slice A1_0 l1_0.length c1_0, .slice A1_1 l1_1.length c1_1], .int .i64 a2, .int .i64 a3] w fun e w' => ∃ v0_ v1_ : Value, e = .returned (.tuple #[.agg #[v0_, v1_], .int .i64 r3]) ∧ Kd.R (Kd.int .i64) 3 w' w.heap.size (fun _ => True) v0_ r1 ∧ Kd.R (Kd.int .i64) 33 w' w.heap.size (fun _ => True) v1_ r2 ∧ Below w.heap.size w w' := by
 have hu25 := Try.underlying25
 have hu54 := Try.underlying54
 have HR0_0 := Aside0.mk hr0_0
 have HC0_0 := Aside0.mk hc0_0
 clear hr0_0 hc0_0
 have HR0_1 := Aside0.mk hr0_1
 have HC0_1 := Aside0.mk hc0_1
 clear hr0_1 hc0_1
 have HR1_0 := Aside0.mk hr1_0
 have HC1_0 := Aside0.mk hc1_0
 clear hr1_0 hc1_0
 have HR1_1 := Aside0.mk hr1_1
 have HC1_1 := Aside0.mk hc1_1
 clear hr1_1 hc1_1
 have HB := Aside0.mk (Below.refl w.heap.size w)
 have H : ((tens_Good.f k l0_0 l0_1).bind fun t244 => (if t244 = true then ((tens_Good.f k l1_0 l1_1).bind fun t245 => (if t245 = true then ((conv_stepGood.f a2).bind fun t246 => (if t246 = true then ((conv_sized.f a3).bind fun t247 => (conv_BackIn.j0 k a2 a3 (!t247) l0_0 l0_1 l1_0 l1_1)) else (conv_BackIn.j0 k a2 a3 true l0_0 l0_1 l1_0 l1_1))) else (conv_BackIn.j0 k a2 a3 true l0_0 l0_1 l1_0 l1_1))) else (conv_BackIn.j0 k a2 a3 true l0_0 l0_1 l1_0 l1_1))) = some (r1, r2, r3) := h
 clear h
 have HC5 := Aside0.mk H
 clear H
 go_enter Try.func22, Try.ntmps22
 go_upto_region 1 with (first | ((with_reducible refine gate_dst (N := 4) rfl ?_); (try (refine gate_guard (by rfl) ?_; dsimp only)); refine box_event ?hg (N := 4) ?hd (cs := #[.slice A0_0 l0_0.length c0_0, .slice A0_1 l0_1.length c0_1]) (t := 25) ?hr ?_; (case hd => rfl); (case hg => rfl); (case hr => first | (go_simp; done) | (go_simp; rfl)); intro gb241 hg w6 hbox hb; have BK241 := Aside0.mk (hbox); have GW241 := Aside0.mk (zs_ hg (zw0_ HB)); have GE241 := Aside0.mk (zs_ hg (zw0_ HB)); replace HB := Aside0.mk (below_step (zw0_ HB) hb); clear hb hbox hg) | ((with_reducible refine gate_dst (N := 5) rfl ?_); (try (refine gate_guard (by rfl) ?_; dsimp only)); refine box_event ?hg (N := 5) ?hd (cs := #[.slice A1_0 l1_0.length c1_0, .slice A1_1 l1_1.length c1_1]) (t := 25) ?hr ?_; (case hd => rfl); (case hg => rfl); (case hr => first | (go_simp; done) | (go_simp; rfl)); intro gb242 hg w7 hbox hb; have BK242 := Aside0.mk (hbox); have GW242 := Aside0.mk (zs_ hg (zw1_ HB GE241)); have GE242 := Aside0.mk (zs_ hg (zw1_ HB GE241)); replace HB := Aside0.mk (below_step (zw1_ HB GE241) hb); have NB241_242 := Aside0.mk (zn_ hg BK241); have NB242_241 := Aside0.mk (zm_ hg BK241); replace BK241 := za_ BK241 hb; clear hb hbox hg) | ((with_reducible refine gate_dst (N := 8) rfl ?_); (try (refine gate_guard (by rfl) ?_; dsimp only)); refine box_event ?hg (N := 8) ?hd (cs := #[.slice none 0 0, .slice none 0 0]) (t := 25) ?hr ?_; (case hd => rfl); (case hg => rfl); (case hr => first | (go_simp; done) | (go_simp; rfl)); intro gb243 hg w8 hbox hb; have BK243 := Aside0.mk (hbox); have GW243 := Aside0.mk (zs_ hg (zw2_ HB GE241 GE242)); have GE243 := Aside0.mk (zs_ hg (zw2_ HB GE241 GE242)); replace HB := Aside0.mk (below_step (zw2_ HB GE241 GE242) hb); have NB241_243 := Aside0.mk (zn_ hg BK241); have NB243_241 := Aside0.mk (zm_ hg BK241); replace BK241 := za_ BK241 hb; have NB242_243 := Aside0.mk (zn_ hg BK242); have NB243_242 := Aside0.mk (zm_ hg BK242); replace BK242 := za_ BK242 hb; clear hb hbox hg))
 (try simp only [Act.put, List.setIfInBounds_toArray, List.set_cons_zero, List.set_cons_succ])
 go_cut [23] (fun v23 wc => ∃ (kq : Nat) (x23_4 : Bool), v23 = .bool x23_4 ∧ Aside0 (conv_BackIn.j0 kq a2 a3 x23_4 l0_0 l0_1 l1_0 l1_1 = some (r1, r2, r3)) ∧ Aside0 (kq ≤ k) ∧ Aside0 (wc.heap[gb241]? = some (.cells #[(.slice A0_0 l0_0.length c0_0), (.slice A0_1 l0_1.length c0_1)] 25 (0, 0))) ∧ Aside0 (wc.heap[gb242]? = some (.cells #[(.slice A1_0 l1_0.length c1_0), (.slice A1_1 l1_1.length c1_1)] 25 (0, 0))) ∧ Aside0 (wc.heap[gb243]? = some (.cells #[(.slice none 0 0), (.slice none 0 0)] 25 (0, 0))) ∧ Aside0 (Below w.heap.size w wc))
 case first =>
  have H := HC5.out
  clear HC5
  replace H := Option.bind_eq_some_iff.mp H
  obtain ⟨t244, A90, H⟩ := H
  (try dsimp only at H)
  have A9 := Aside0.mk A90
  clear A90
  by_cases c10 : t244 = true
  rotate_left
  ·replace c10 := Bool.eq_false_iff.mpr c10
   subst c10
   have H1 : (conv_BackIn.j0 k a2 a3 true l0_0 l0_1 l1_0 l1_1) = some (r1, r2, r3) := by rw [if_neg (show ¬ (false = true) by decide)] at H; exact H
   clear H
   have H := H1
   clear H1
   have H' := Aside0.mk H
   clear H
   have hnb37 := NB241_242.out
   have hnc37 := NB242_241.out
   have hnb38 := NB241_243.out
   have hnc38 := NB243_241.out
   have hcz39_0 := zx_ (v := .slice A0_0 l0_0.length c0_0) BK241 0
   have hcz39_1 := zx_ (v := .slice A0_1 l0_1.length c0_1) BK241 1
   have hfz39_0 := blk_frozen BK241.out 0
   have hfz39_1 := blk_frozen BK241.out 1
   go_wp2_with (first | ((with_reducible refine gate_callee (f := 26) rfl ?_); refine zg_ (some 25) Try.func26 #[.agg #[.slice A0_0 l0_0.length c0_0, .slice A0_1 l0_1.length c0_1]] (h := ?_); (with_reducible refine (tens_Good.calls k _ _ l0_0 _ _ l0_1 false _ ?side1 ?side2 ?side3 ?side4 A9.out).mono ?_); (case side1 => exact zk_ (Kd.C_below HR0_0.out HB.out)); (case side2 => exact HC0_0.out); (case side3 => exact zk_ (Kd.C_below HR0_1.out HB.out)); (case side4 => exact HC0_1.out); rintro e w40 ⟨rfl, hb⟩; refine ⟨_, rfl, ?_⟩; replace BK241 := za_ BK241 hb; replace BK242 := za_ BK242 hb; replace BK243 := za_ BK243 hb; replace HB := Aside0.mk (below_step (zw3_ HB GE241 GE242 GE243) hb); (try clear hb)))
   go_meet
   case rel => exact ⟨_, (true), z1_, H', ⟨by first | omega | exact Nat.le_refl _⟩, ⟨zb_ BK241⟩, ⟨zb_ BK242⟩, ⟨zb_ BK243⟩, ⟨zw3_ HB GE241 GE242 GE243⟩⟩
  subst c10
  have H1 := H
  rw [if_pos rfl] at H1
  clear H
  have H := H1
  clear H1
  replace H := Option.bind_eq_some_iff.mp H
  obtain ⟨t245, A110, H⟩ := H
  (try dsimp only at H)
  have A11 := Aside0.mk A110
  clear A110
  by_cases c12 : t245 = true
  rotate_left
  ·replace c12 := Bool.eq_false_iff.mpr c12
   subst c12
   have H1 : (conv_BackIn.j0 k a2 a3 true l0_0 l0_1 l1_0 l1_1) = some (r1, r2, r3) := by rw [if_neg (show ¬ (false = true) by decide)] at H; exact H
   clear H
   have H := H1
   clear H1
   have H' := Aside0.mk H
   clear H
   have hnb30 := NB241_242.out
   have hnc30 := NB242_241.out
   have hnb31 := NB241_243.out
   have hnc31 := NB243_241.out
   have hcz32_0 := zx_ (v := .slice A0_0 l0_0.length c0_0) BK241 0
   have hcz32_1 := zx_ (v := .slice A0_1 l0_1.length c0_1) BK241 1
   have hfz32_0 := blk_frozen BK241.out 0
   have hfz32_1 := blk_frozen BK241.out 1
   go_wp2_with (first | ((with_reducible refine gate_callee (f := 26) rfl ?_); refine zg_ (some 25) Try.func26 #[.agg #[.slice A0_0 l0_0.length c0_0, .slice A0_1 l0_1.length c0_1]] (h := ?_); (with_reducible refine (tens_Good.calls k _ _ l0_0 _ _ l0_1 true _ ?side1 ?side2 ?side3 ?side4 A9.out).mono ?_); (case side1 => exact zk_ (Kd.C_below HR0_0.out HB.out)); (case side2 => exact HC0_0.out); (case side3 => exact zk_ (Kd.C_below HR0_1.out HB.out)); (case side4 => exact HC0_1.out); rintro e w33 ⟨rfl, hb⟩; refine ⟨_, rfl, ?_⟩; replace BK241 := za_ BK241 hb; replace BK242 := za_ BK242 hb; replace BK243 := za_ BK243 hb; replace HB := Aside0.mk (below_step (zw3_ HB GE241 GE242 GE243) hb); (try clear hb); have hnb34 := NB242_243.out; have hnc34 := NB243_242.out; have hcz35_0 := zx_ (v := .slice A1_0 l1_0.length c1_0) BK242 0; have hcz35_1 := zx_ (v := .slice A1_1 l1_1.length c1_1) BK242 1; have hfz35_0 := blk_frozen BK242.out 0; have hfz35_1 := blk_frozen BK242.out 1) | (go_at_call 26; (with_reducible refine (tens_Good.calls k _ _ l1_0 _ _ l1_1 false _ ?side1 ?side2 ?side3 ?side4 A11.out).mono ?_); (case side1 => exact zk_ (Kd.C_below HR1_0.out HB.out)); (case side2 => exact HC1_0.out); (case side3 => exact zk_ (Kd.C_below HR1_1.out HB.out)); (case side4 => exact HC1_1.out); rintro e w36 ⟨rfl, hb⟩; replace BK241 := za_ BK241 hb; replace BK242 := za_ BK242 hb; replace BK243 := za_ BK243 hb; replace HB := Aside0.mk (below_step (zw3_ HB GE241 GE242 GE243) hb); (try clear hb)))
   go_meet
   case rel => exact ⟨_, (true), z1_, H', ⟨by first | omega | exact Nat.le_refl _⟩, ⟨zb_ BK241⟩, ⟨zb_ BK242⟩, ⟨zb_ BK243⟩, ⟨zw3_ HB GE241 GE242 GE243⟩⟩
  subst c12
  have H1 := H
  rw [if_pos rfl] at H1
  clear H
  have H := H1
  clear H1
  replace H := Option.bind_eq_some_iff.mp H
  obtain ⟨t246, A130, H⟩ := H
  (try dsimp only at H)
  have A13 := Aside0.mk A130
  clear A130
  by_cases c14 : t246 = true
  rotate_left
  ·replace c14 := Bool.eq_false_iff.mpr c14
   subst c14
   have H1 : (conv_BackIn.j0 k a2 a3 true l0_0 l0_1 l1_0 l1_1) = some (r1, r2, r3) := by rw [if_neg (show ¬ (false = true) by decide)] at H; exact H
   clear H
   have H := H1
   clear H1
   have H' := Aside0.mk H
   clear H
   have hnb23 := NB241_242.out
   have hnc23 := NB242_241.out
   have hnb24 := NB241_243.out
   have hnc24 := NB243_241.out
   have hcz25_0 := zx_ (v := .slice A0_0 l0_0.length c0_0) BK241 0
   have hcz25_1 := zx_ (v := .slice A0_1 l0_1.length c0_1) BK241 1
   have hfz25_0 := blk_frozen BK241.out 0
   have hfz25_1 := blk_frozen BK241.out 1
   go_wp2_with (first | ((with_reducible refine gate_callee (f := 26) rfl ?_); refine zg_ (some 25) Try.func26 #[.agg #[.slice A0_0 l0_0.length c0_0, .slice A0_1 l0_1.length c0_1]] (h := ?_); (with_reducible refine (tens_Good.calls k _ _ l0_0 _ _ l0_1 true _ ?side1 ?side2 ?side3 ?side4 A9.out).mono ?_); (case side1 => exact zk_ (Kd.C_below HR0_0.out HB.out)); (case side2 => exact HC0_0.out); (case side3 => exact zk_ (Kd.C_below HR0_1.out HB.out)); (case side4 => exact HC0_1.out); rintro e w26 ⟨rfl, hb⟩; refine ⟨_, rfl, ?_⟩; replace BK241 := za_ BK241 hb; replace BK242 := za_ BK242 hb; replace BK243 := za_ BK243 hb; replace HB := Aside0.mk (below_step (zw3_ HB GE241 GE242 GE243) hb); (try clear hb); have hnb27 := NB242_243.out; have hnc27 := NB243_242.out; have hcz28_0 := zx_ (v := .slice A1_0 l1_0.length c1_0) BK242 0; have hcz28_1 := zx_ (v := .slice A1_1 l1_1.length c1_1) BK242 1; have hfz28_0 := blk_frozen BK242.out 0; have hfz28_1 := blk_frozen BK242.out 1) | (go_at_call 26; (with_reducible refine (tens_Good.calls k _ _ l1_0 _ _ l1_1 true _ ?side1 ?side2 ?side3 ?side4 A11.out).mono ?_); (case side1 => exact zk_ (Kd.C_below HR1_0.out HB.out)); (case side2 => exact HC1_0.out); (case side3 => exact zk_ (Kd.C_below HR1_1.out HB.out)); (case side4 => exact HC1_1.out); rintro e w29 ⟨rfl, hb⟩; replace BK241 := za_ BK241 hb; replace BK242 := za_ BK242 hb; replace BK243 := za_ BK243 hb; replace HB := Aside0.mk (below_step (zw3_ HB GE241 GE242 GE243) hb); (try clear hb)) | (go_at_call 27; (with_reducible refine (conv_stepGood.calls a2 false _ A13.out).mono ?_); rintro e w' ⟨rfl, ⟨nd, rfl⟩⟩))
   go_meet
   case rel => exact ⟨_, (true), z1_, H', ⟨by first | omega | exact Nat.le_refl _⟩, ⟨zb_ BK241⟩, ⟨zb_ BK242⟩, ⟨zb_ BK243⟩, ⟨zw3_ HB GE241 GE242 GE243⟩⟩
  subst c14
  have H1 := H
  rw [if_pos rfl] at H1
  clear H
  have H := H1
  clear H1
  replace H := Option.bind_eq_some_iff.mp H
  obtain ⟨t247, A150, H⟩ := H
  replace H : (conv_BackIn.j0 k a2 a3 (!t247) l0_0 l0_1 l1_0 l1_1) = some (r1, r2, r3) := H
  have A15 := Aside0.mk A150
  clear A150
  have H' := Aside0.mk H
  clear H
  have hnb16 := NB241_242.out
  have hnc16 := NB242_241.out
  have hnb17 := NB241_243.out
  have hnc17 := NB243_241.out
  have hcz18_0 := zx_ (v := .slice A0_0 l0_0.length c0_0) BK241 0
  have hcz18_1 := zx_ (v := .slice A0_1 l0_1.length c0_1) BK241 1
  have hfz18_0 := blk_frozen BK241.out 0
  have hfz18_1 := blk_frozen BK241.out 1
  go_wp2_with (first | ((with_reducible refine gate_callee (f := 26) rfl ?_); refine zg_ (some 25) Try.func26 #[.agg #[.slice A0_0 l0_0.length c0_0, .slice A0_1 l0_1.length c0_1]] (h := ?_); (with_reducible refine (tens_Good.calls k _ _ l0_0 _ _ l0_1 true _ ?side1 ?side2 ?side3 ?side4 A9.out).mono ?_); (case side1 => exact zk_ (Kd.C_below HR0_0.out HB.out)); (case side2 => exact HC0_0.out); (case side3 => exact zk_ (Kd.C_below HR0_1.out HB.out)); (case side4 => exact HC0_1.out); rintro e w19 ⟨rfl, hb⟩; refine ⟨_, rfl, ?_⟩; replace BK241 := za_ BK241 hb; replace BK242 := za_ BK242 hb; replace BK243 := za_ BK243 hb; replace HB := Aside0.mk (below_step (zw3_ HB GE241 GE242 GE243) hb); (try clear hb); have hnb20 := NB242_243.out; have hnc20 := NB243_242.out; have hcz21_0 := zx_ (v := .slice A1_0 l1_0.length c1_0) BK242 0; have hcz21_1 := zx_ (v := .slice A1_1 l1_1.length c1_1) BK242 1; have hfz21_0 := blk_frozen BK242.out 0; have hfz21_1 := blk_frozen BK242.out 1) | (go_at_call 26; (with_reducible refine (tens_Good.calls k _ _ l1_0 _ _ l1_1 true _ ?side1 ?side2 ?side3 ?side4 A11.out).mono ?_); (case side1 => exact zk_ (Kd.C_below HR1_0.out HB.out)); (case side2 => exact HC1_0.out); (case side3 => exact zk_ (Kd.C_below HR1_1.out HB.out)); (case side4 => exact HC1_1.out); rintro e w22 ⟨rfl, hb⟩; replace BK241 := za_ BK241 hb; replace BK242 := za_ BK242 hb; replace BK243 := za_ BK243 hb; replace HB := Aside0.mk (below_step (zw3_ HB GE241 GE242 GE243) hb); (try clear hb)) | (go_at_call 27; (with_reducible refine (conv_stepGood.calls a2 true _ A13.out).mono ?_); rintro e w' ⟨rfl, ⟨nd, rfl⟩⟩) | (go_at_call 39; (with_reducible refine (conv_sized.calls a3 t247 _ A15.out).mono ?_); rintro e w' ⟨rfl, ⟨nd, rfl⟩⟩))
  go_meet
  case rel => exact ⟨_, (!t247), z1_, H', ⟨by first | omega | exact Nat.le_refl _⟩, ⟨zb_ BK241⟩, ⟨zb_ BK242⟩, ⟨zb_ BK243⟩, ⟨zw3_ HB GE241 GE242 GE243⟩⟩
 case rest =>
  clear HC5
  try clear c1
  try clear c2
  try clear p2
  try clear c3
  try clear c10
  try clear c12
  try clear c14
  try clear c16
  try clear c17
  try clear c20
  try clear c22
  try clear c23
  try clear c24
  try clear c26
  try clear c27
  try clear c30
  try clear c31
  try clear c34
  try clear c37
  try clear c38
  try clear hcz18_0
  try clear hcz18_1
  try clear hcz21_0
  try clear hcz21_1
  try clear hcz25_0
  try clear hcz25_1
  try clear hcz28_0
  try clear hcz28_1
  try clear hcz32_0
  try clear hcz32_1
  try clear hcz35_0
  try clear hcz35_1
  try clear hcz39_0
  try clear hcz39_1
  try clear hfz18_0
  try clear hfz18_1
  try clear hfz21_0
  try clear hfz21_1
  try clear hfz25_0
  try clear hfz25_1
  try clear hfz28_0
  try clear hfz28_1
  try clear hfz32_0
  try clear hfz32_1
  try clear hfz35_0
  try clear hfz35_1
  try clear hfz39_0
  try clear hfz39_1
  obtain ⟨kq, x23_4, rfl, HA, HJ4, BK241, BK242, BK243, HB⟩ := hcut
  cases kq with
  | zero => exact absurd HA.out (by simp [conv_BackIn.j0])
  | succ kj4 =>
   have H := HA.out
   clear HA
   simp only [conv_BackIn.j0] at H
   by_cases c41 : x23_4 = true
   ·subst c41
    have H1 : (some (([] : List Int), ([] : List Int), 1)) = some (r1, r2, r3) := by rw [if_pos rfl] at H; exact H
    clear H
    have H := H1
    clear H1
    simp only [Option.some.injEq, Prod.mk.injEq] at H
    obtain ⟨rfl, rfl, rfl⟩ := H
    have hnb42 := NB243_241.out
    have hnc42 := NB241_243.out
    have hnb43 := NB243_242.out
    have hnc43 := NB242_243.out
    have hcz44_0 := zx_ (v := .slice none 0 0) BK243 0
    have hcz44_1 := zx_ (v := .slice none 0 0) BK243 1
    have hfz44_0 := blk_frozen BK243.out 0
    have hfz44_1 := blk_frozen BK243.out 1
    go_wp2
    refine bodyPost_ret (results_ct rfl _ _ gb243 25 #[.slice none 0 0, .slice none 0 0] (0, 0) _ rfl (zo2_ BK243) Try.underlying25 rfl (by kernel_rfl)) rfl ?_
    exact ⟨_, _, z0_, z2_, z2_, zw3_ HB GE241 GE242 GE243⟩
   replace c41 := Bool.eq_false_iff.mpr c41
   subst c41
   have H1 := H
   rw [if_neg (show ¬ (false = true) by decide)] at H1
   clear H
   have H := H1
   clear H1
   by_cases c45 : (l0_0.length : Int) = 2
   rotate_left
   ·rw [if_neg c45] at H
    have c45b0 : ((l0_0.length : Int) == 2) = false := beq_eq_false_iff_ne.mpr c45
    have c45b1 : ((l0_0.length : Int) != 2) = true := bne_iff_ne.mpr c45
    simp only [Option.some.injEq, Prod.mk.injEq] at H
    obtain ⟨rfl, rfl, rfl⟩ := H
    try go_wp2
    replace BK241 := Aside0.mk (blk_drew BK241.out)
    replace BK242 := Aside0.mk (blk_drew BK242.out)
    replace BK243 := Aside0.mk (blk_drew BK243.out)
    replace HB := Aside0.mk (below_drew1 HB.out)
    refine start_ (n := 36) (S := fun w' => w'.cell? ⟨gb241, 0, none⟩ = some (.slice A0_0 l0_0.length c0_0) ∧ w'.cell? ⟨gb241, 1, none⟩ = some (.slice A0_1 l0_1.length c0_1)) (ds := []) #[false, false, false, false, false, false, false, false, false, false, false, false, false, false, false, false, false, false, false, false, false, false, false, false, false, false, false, false, false, false, false, false, false, false, false, false] (by kernel_rfl) rfl rfl ⟨(blk_cell BK241.out 0).trans rfl, (blk_cell BK241.out 1).trans rfl⟩ (fun hHeld => ?_); refine with_tabW conv_BackIn.tab3 conv_BackIn.bits3 (fun HT_ HW_ => ?_)
    generalize wc.drew = w143 at BK241 BK242 BK243 HB hHeld ⊢
    refine yp_ ?_ 0 44
    refine yt2_ ?_ 1 45
    refine yp_ ?_ 2 46
    refine yp_ ?_ 3 47
    refine yp_ ?_ 4 48
    refine yu_ ?_ 5 49
    refine yu_ ?_ 6 50
    refine yu_ ?_ 7 51
    refine yu_ ?_ 8 52
    refine yp_ ?_ 9 53
    refine yp_ ?_ 10 54
    refine yu_ ?_ 11 55
    refine yu_ ?_ 12 56
    refine yu_ ?_ 13 57
    refine yu_ ?_ 14 58
    refine yu_ ?_ 15 59
    refine yu_ ?_ 16 60
    refine yu_ ?_ 17 61
    refine yu_ ?_ 18 62
    refine yu_ ?_ 19 63
    refine yp_ ?_ 20 64
    refine yp_ ?_ 21 65
    refine yu_ ?_ 22 66
    refine yu_ ?_ 23 67
    refine yu_ ?_ 24 68
    refine yu_ ?_ 25 69
    refine yu_ ?_ 26 70
    refine yu_ ?_ 27 71
    refine yu_ ?_ 28 72
    refine yu_ ?_ 29 73
    refine yu_ ?_ 30 74
    refine yu_ ?_ 31 75
    refine yu_ ?_ 32 76
    refine yu_ ?_ 33 77
    refine yp_ ?_ 34 78
    refine yp_ ?_ 35 43
    refine done_ (done_of HT_.out (by kernel_rfl)) ?_
    have hnb144 := NB243_241.out
    have hnc144 := NB241_243.out
    have hnb145 := NB243_242.out
    have hnc145 := NB242_243.out
    have hcz146_0 := zx_ (v := .slice none 0 0) BK243 0
    have hcz146_1 := zx_ (v := .slice none 0 0) BK243 1
    have hfz146_0 := blk_frozen BK243.out 0
    have hfz146_1 := blk_frozen BK243.out 1
    try go_wp2
    refine bodyPost_ret (results_ct rfl _ _ gb243 25 #[.slice none 0 0, .slice none 0 0] (0, 0) _ rfl (zo2_ BK243) Try.underlying25 rfl (by kernel_rfl)) rfl ?_
    exact ⟨_, _, z0_, z2_, z2_, zw3_ HB GE241 GE242 GE243⟩
   rw [if_pos c45] at H
   have c45b0 : ((l0_0.length : Int) == 2) = true := beq_iff_eq.mpr c45
   have c45b1 : ((l0_0.length : Int) != 2) = false := bne_eq_false_iff_eq.mpr c45
   clear c45
   by_cases c46 : (l1_0.length : Int) = 3
   rotate_left
   ·rw [if_neg c46] at H
    have c46b0 : ((l1_0.length : Int) == 3) = false := beq_eq_false_iff_ne.mpr c46
    have c46b1 : ((l1_0.length : Int) != 3) = true := bne_iff_ne.mpr c46
    simp only [Option.some.injEq, Prod.mk.injEq] at H
    obtain ⟨rfl, rfl, rfl⟩ := H
    try go_wp2
    replace BK241 := Aside0.mk (blk_drew BK241.out)
    replace BK242 := Aside0.mk (blk_drew BK242.out)
    replace BK243 := Aside0.mk (blk_drew BK243.out)
    replace HB := Aside0.mk (below_drew1 HB.out)
    refine start_ (n := 36) (S := fun w' => w'.cell? ⟨gb241, 0, none⟩ = some (.slice A0_0 l0_0.length c0_0) ∧ w'.cell? ⟨gb241, 1, none⟩ = some (.slice A0_1 l0_1.length c0_1) ∧ w'.cell? ⟨gb242, 0, none⟩ = some (.slice A1_0 l1_0.length c1_0) ∧ w'.cell? ⟨gb242, 1, none⟩ = some (.slice A1_1 l1_1.length c1_1)) (ds := []) #[false, false, false, false, false, false, false, false, false, false, false, false, false, false, false, false, false, false, false, false, false, false, false, false, false, false, false, false, false, false, false, false, false, false, false, false] (by kernel_rfl) rfl rfl ⟨(blk_cell BK241.out 0).trans rfl, (blk_cell BK241.out 1).trans rfl, (blk_cell BK242.out 0).trans rfl, (blk_cell BK242.out 1).trans rfl⟩ (fun hHeld => ?_); refine with_tabW conv_BackIn.tab3 conv_BackIn.bits3 (fun HT_ HW_ => ?_)
    generalize wc.drew = w139 at BK241 BK242 BK243 HB hHeld ⊢
    refine yp_ ?_ 0 44
    refine yt4_ ?_ 1 45
    refine yp_ ?_ 2 46
    refine yp_ ?_ 3 47
    refine yp_ ?_ 4 48
    refine yp_ ?_ 5 49
    refine yt4_ ?_ 6 50
    refine yp_ ?_ 7 51
    refine yp_ ?_ 8 52
    refine yp_ ?_ 9 53
    refine yp_ ?_ 10 54
    refine yu_ ?_ 11 55
    refine yu_ ?_ 12 56
    refine yu_ ?_ 13 57
    refine yu_ ?_ 14 58
    refine yu_ ?_ 15 59
    refine yu_ ?_ 16 60
    refine yu_ ?_ 17 61
    refine yu_ ?_ 18 62
    refine yu_ ?_ 19 63
    refine yp_ ?_ 20 64
    refine yp_ ?_ 21 65
    refine yu_ ?_ 22 66
    refine yu_ ?_ 23 67
    refine yu_ ?_ 24 68
    refine yu_ ?_ 25 69
    refine yu_ ?_ 26 70
    refine yu_ ?_ 27 71
    refine yu_ ?_ 28 72
    refine yu_ ?_ 29 73
    refine yu_ ?_ 30 74
    refine yu_ ?_ 31 75
    refine yu_ ?_ 32 76
    refine yu_ ?_ 33 77
    refine yp_ ?_ 34 78
    refine yp_ ?_ 35 43
    refine done_ (done_of HT_.out (by kernel_rfl)) ?_
    have hnb140 := NB243_241.out
    have hnc140 := NB241_243.out
    have hnb141 := NB243_242.out
    have hnc141 := NB242_243.out
    have hcz142_0 := zx_ (v := .slice none 0 0) BK243 0
    have hcz142_1 := zx_ (v := .slice none 0 0) BK243 1
    have hfz142_0 := blk_frozen BK243.out 0
    have hfz142_1 := blk_frozen BK243.out 1
    try go_wp2
    refine bodyPost_ret (results_ct rfl _ _ gb243 25 #[.slice none 0 0, .slice none 0 0] (0, 0) _ rfl (zo2_ BK243) Try.underlying25 rfl (by kernel_rfl)) rfl ?_
    exact ⟨_, _, z0_, z2_, z2_, zw3_ HB GE241 GE242 GE243⟩
   rw [if_pos c46] at H
   have c46b0 : ((l1_0.length : Int) == 3) = true := beq_iff_eq.mpr c46
   have c46b1 : ((l1_0.length : Int) != 3) = false := bne_eq_false_iff_eq.mpr c46
   clear c46
   by_cases c47 : 0 < (l1_0.length : Int)
   rotate_left
   ·rw [if_neg c47] at H
    exact absurd H (by simp)
   rw [if_pos c47] at H
   have c47b0 : decide (0 < (l1_0.length : Int)) = true := decide_eq_true c47
   have c47b1 : decide (0 < l1_0.length) = true := decide_eq_true (by omega)
   clear c47
   by_cases c48 : 0 < (l0_0.length : Int)
   rotate_left
   ·rw [if_neg c48] at H
    exact absurd H (by simp)
   rw [if_pos c48] at H
   have c48b0 : decide (0 < (l0_0.length : Int)) = true := decide_eq_true c48
   have c48b1 : decide (0 < l0_0.length) = true := decide_eq_true (by omega)
   clear c48
   by_cases c49 : (rd l1_0 0) = (rd l0_0 0)
   rotate_left
   ·rw [if_neg c49] at H
    have c49b0 : ((rd l1_0 0) == (rd l0_0 0)) = false := beq_eq_false_iff_ne.mpr c49
    have c49b1 : ((rd l1_0 0) != (rd l0_0 0)) = true := bne_iff_ne.mpr c49
    simp only [Option.some.injEq, Prod.mk.injEq] at H
    obtain ⟨rfl, rfl, rfl⟩ := H
    try go_wp2
    replace BK241 := Aside0.mk (blk_drew BK241.out)
    replace BK242 := Aside0.mk (blk_drew BK242.out)
    replace BK243 := Aside0.mk (blk_drew BK243.out)
    replace HB := Aside0.mk (below_drew1 HB.out)
    have p248 : 0 ≤ (0 : Int) := (by omega)
    have q248 : 0 < (l1_0.length : Int) := of_decide_eq_true (by first | (with_reducible assumption) | assumption)
    obtain ⟨ad248, e248, hx248_0⟩ := Kd.at_int HR1_0.out 0 p248 q248
    have hw248_0 := hx248_0
    (try rw [show ((0 : Int)).toNat = 0 from rfl] at hw248_0)
    (try rw [show 0 * 1 = 0 from rfl] at hw248_0)
    (try rw [Addr.add_zero'] at hw248_0)
    cases e248
    have qi248 : (0 < l1_0.length) = True := eq_true (by omega)
    (try rw [show ((0 : Int)).toNat = 0 from rfl] at hx248_0)
    (try rw [Addr.add_zero'] at hx248_0)
    replace hx248_0 := (HB.out.cell (World.block_lt_of_cell? w _ hx248_0)).trans hx248_0
    replace p248 := eq_true p248
    replace q248 := eq_true q248
    have p249 : 0 ≤ (0 : Int) := (by omega)
    have q249 : 0 < (l0_0.length : Int) := of_decide_eq_true (by first | (with_reducible assumption) | assumption)
    obtain ⟨ad249, e249, hx249_0⟩ := Kd.at_int HR0_0.out 0 p249 q249
    have hw249_0 := hx249_0
    (try rw [show ((0 : Int)).toNat = 0 from rfl] at hw249_0)
    (try rw [show 0 * 1 = 0 from rfl] at hw249_0)
    (try rw [Addr.add_zero'] at hw249_0)
    cases e249
    have qi249 : (0 < l0_0.length) = True := eq_true (by omega)
    (try rw [show ((0 : Int)).toNat = 0 from rfl] at hx249_0)
    (try rw [Addr.add_zero'] at hx249_0)
    replace hx249_0 := (HB.out.cell (World.block_lt_of_cell? w _ hx249_0)).trans hx249_0
    replace p249 := eq_true p249
    replace q249 := eq_true q249
    refine start_ (n := 36) (S := fun w' => w'.cell? ⟨gb241, 0, none⟩ = some (.slice (some ad249) l0_0.length c0_0) ∧ w'.cell? ⟨gb241, 1, none⟩ = some (.slice A0_1 l0_1.length c0_1) ∧ w'.cell? ⟨gb242, 0, none⟩ = some (.slice (some ad248) l1_0.length c1_0) ∧ w'.cell? ⟨gb242, 1, none⟩ = some (.slice A1_1 l1_1.length c1_1) ∧ w'.cell? ad248 = some (.int .i64 (rd l1_0 0)) ∧ w'.cell? ad249 = some (.int .i64 (rd l0_0 0))) (ds := []) #[false, false, false, false, false, false, false, false, false, false, false, false, false, false, false, false, false, false, false, false, false, false, false, false, false, false, false, false, false, false, false, false, false, false, false, false] (by kernel_rfl) rfl rfl ⟨(blk_cell BK241.out 0).trans rfl, (blk_cell BK241.out 1).trans rfl, (blk_cell BK242.out 0).trans rfl, (blk_cell BK242.out 1).trans rfl, ((HB.out.cell (World.block_lt_of_cell? w _ hw248_0)).trans hw248_0), ((HB.out.cell (World.block_lt_of_cell? w _ hw249_0)).trans hw249_0)⟩ (fun hHeld => ?_); refine with_tabW conv_BackIn.tab3 conv_BackIn.bits3 (fun HT_ HW_ => ?_)
    generalize wc.drew = w135 at BK241 BK242 BK243 HB hx248_0 hx249_0 hHeld ⊢
    refine yp_ ?_ 0 44
    refine yt6_ ?_ 1 45
    refine yp_ ?_ 2 46
    refine yp_ ?_ 3 47
    refine yp_ ?_ 4 48
    refine yp_ ?_ 5 49
    refine yt6_ ?_ 6 50
    refine yp_ ?_ 7 51
    refine yp_ ?_ 8 52
    refine yp_ ?_ 9 53
    refine yp_ ?_ 10 54
    refine yp_ ?_ 11 55
    refine yp_ ?_ 15 59
    refine yt6_ ?_ 12 56
    refine yp_ ?_ 13 57
    refine yt6_ ?_ 14 58
    refine yt6_ ?_ 16 60
    refine yp_ ?_ 17 61
    refine yt6_ ?_ 18 62
    refine yp_ ?_ 19 63
    refine yp_ ?_ 20 64
    refine yp_ ?_ 21 65
    refine yu_ ?_ 22 66
    refine yu_ ?_ 23 67
    refine yu_ ?_ 24 68
    refine yu_ ?_ 25 69
    refine yu_ ?_ 26 70
    refine yu_ ?_ 27 71
    refine yu_ ?_ 28 72
    refine yu_ ?_ 29 73
    refine yu_ ?_ 30 74
    refine yu_ ?_ 31 75
    refine yu_ ?_ 32 76
    refine yu_ ?_ 33 77
    refine yp_ ?_ 34 78
    refine yp_ ?_ 35 43
    refine done_ (done_of HT_.out (by kernel_rfl)) ?_
    have hnb136 := NB243_241.out
    have hnc136 := NB241_243.out
    have hnb137 := NB243_242.out
    have hnc137 := NB242_243.out
    have hcz138_0 := zx_ (v := .slice none 0 0) BK243 0
    have hcz138_1 := zx_ (v := .slice none 0 0) BK243 1
    have hfz138_0 := blk_frozen BK243.out 0
    have hfz138_1 := blk_frozen BK243.out 1
    try go_wp2
    refine bodyPost_ret (results_ct rfl _ _ gb243 25 #[.slice none 0 0, .slice none 0 0] (0, 0) _ rfl (zo2_ BK243) Try.underlying25 rfl (by kernel_rfl)) rfl ?_
    exact ⟨_, _, z0_, z2_, z2_, zw3_ HB GE241 GE242 GE243⟩
   rw [if_pos c49] at H
   have c49b0 : ((rd l1_0 0) == (rd l0_0 0)) = true := beq_iff_eq.mpr c49
   have c49b1 : ((rd l1_0 0) != (rd l0_0 0)) = false := bne_eq_false_iff_eq.mpr c49
   clear c49
   by_cases c50 : 2 < (l1_0.length : Int)
   rotate_left
   ·rw [if_neg c50] at H
    exact absurd H (by simp)
   rw [if_pos c50] at H
   have c50b0 : decide (2 < (l1_0.length : Int)) = true := decide_eq_true c50
   have c50b1 : decide (2 < l1_0.length) = true := decide_eq_true (by omega)
   clear c50
   replace H := Option.bind_eq_some_iff.mp H
   obtain ⟨t251, A510, H⟩ := H
   (try dsimp only at H)
   have A51 := Aside0.mk A510
   clear A510
   by_cases c52 : 1 < (l0_0.length : Int)
   rotate_left
   ·rw [if_neg c52] at H
    exact absurd H (by simp)
   rw [if_pos c52] at H
   have c52b0 : decide (1 < (l0_0.length : Int)) = true := decide_eq_true c52
   have c52b1 : decide (1 < l0_0.length) = true := decide_eq_true (by omega)
   clear c52
   by_cases c53 : t251 = (rd l0_0 1)
   rotate_left
   ·rw [if_neg c53] at H
    have c53b0 : (t251 == (rd l0_0 1)) = false := beq_eq_false_iff_ne.mpr c53
    have c53b1 : (t251 != (rd l0_0 1)) = true := bne_iff_ne.mpr c53
    simp only [Option.some.injEq, Prod.mk.injEq] at H
    obtain ⟨rfl, rfl, rfl⟩ := H
    try go_wp2
    replace BK241 := Aside0.mk (blk_drew BK241.out)
    replace BK242 := Aside0.mk (blk_drew BK242.out)
    replace BK243 := Aside0.mk (blk_drew BK243.out)
    replace HB := Aside0.mk (below_drew1 HB.out)
    have p248 : 0 ≤ (0 : Int) := (by omega)
    have q248 : 0 < (l1_0.length : Int) := of_decide_eq_true (by first | (with_reducible assumption) | assumption)
    obtain ⟨ad248, e248, hx248_0⟩ := Kd.at_int HR1_0.out 0 p248 q248
    have hw248_0 := hx248_0
    (try rw [show ((0 : Int)).toNat = 0 from rfl] at hw248_0)
    (try rw [show 0 * 1 = 0 from rfl] at hw248_0)
    (try rw [Addr.add_zero'] at hw248_0)
    cases e248
    have qi248 : (0 < l1_0.length) = True := eq_true (by omega)
    (try rw [show ((0 : Int)).toNat = 0 from rfl] at hx248_0)
    (try rw [Addr.add_zero'] at hx248_0)
    replace hx248_0 := (HB.out.cell (World.block_lt_of_cell? w _ hx248_0)).trans hx248_0
    replace p248 := eq_true p248
    replace q248 := eq_true q248
    have p249 : 0 ≤ (0 : Int) := (by omega)
    have q249 : 0 < (l0_0.length : Int) := of_decide_eq_true (by first | (with_reducible assumption) | assumption)
    obtain ⟨ad249, e249, hx249_0⟩ := Kd.at_int HR0_0.out 0 p249 q249
    have hw249_0 := hx249_0
    (try rw [show ((0 : Int)).toNat = 0 from rfl] at hw249_0)
    (try rw [show 0 * 1 = 0 from rfl] at hw249_0)
    (try rw [Addr.add_zero'] at hw249_0)
    cases e249
    have qi249 : (0 < l0_0.length) = True := eq_true (by omega)
    (try rw [show ((0 : Int)).toNat = 0 from rfl] at hx249_0)
    (try rw [Addr.add_zero'] at hx249_0)
    replace hx249_0 := (HB.out.cell (World.block_lt_of_cell? w _ hx249_0)).trans hx249_0
    replace p249 := eq_true p249
    replace q249 := eq_true q249
    have p250 : 0 ≤ (2 : Int) := (by omega)
    have q250 : 2 < (l1_0.length : Int) := of_decide_eq_true (by first | (with_reducible assumption) | assumption)
    obtain ⟨ad250, e250, hx250_0⟩ := Kd.at_int HR1_0.out 2 p250 q250
    have hw250_0 := hx250_0
    (try rw [show ((2 : Int)).toNat = 2 from rfl] at hw250_0)
    (try rw [show 2 * 1 = 2 from rfl] at hw250_0)
    (try simp only [Nat.reduceMul, Nat.reduceEqDiff, Go.Addr.add, ↓reduceIte] at hw250_0)
    obtain rfl : ad248 = ad250 := (by injection e250)
    (try simp only [show (2 : Int).toNat = 2 from rfl, Nat.reduceMul, Nat.reduceEqDiff, Go.Addr.add, ↓reduceIte] at hx250_0)
    have qi250 : (2 < l1_0.length) = True := eq_true (by omega)
    (try rw [show ((2 : Int)).toNat = 2 from rfl] at hx250_0)
    replace hx250_0 := (HB.out.cell (World.block_lt_of_cell? w _ hx250_0)).trans hx250_0
    replace p250 := eq_true p250
    replace q250 := eq_true q250
    have p252 : 0 ≤ (1 : Int) := (by omega)
    have q252 : 1 < (l0_0.length : Int) := of_decide_eq_true (by first | (with_reducible assumption) | assumption)
    obtain ⟨ad252, e252, hx252_0⟩ := Kd.at_int HR0_0.out 1 p252 q252
    have hw252_0 := hx252_0
    (try rw [show ((1 : Int)).toNat = 1 from rfl] at hw252_0)
    (try rw [show 1 * 1 = 1 from rfl] at hw252_0)
    (try simp only [Nat.reduceMul, Nat.reduceEqDiff, Go.Addr.add, ↓reduceIte] at hw252_0)
    obtain rfl : ad249 = ad252 := (by injection e252)
    (try simp only [show (1 : Int).toNat = 1 from rfl, Nat.reduceMul, Nat.reduceEqDiff, Go.Addr.add, ↓reduceIte] at hx252_0)
    have qi252 : (1 < l0_0.length) = True := eq_true (by omega)
    (try rw [show ((1 : Int)).toNat = 1 from rfl] at hx252_0)
    replace hx252_0 := (HB.out.cell (World.block_lt_of_cell? w _ hx252_0)).trans hx252_0
    replace p252 := eq_true p252
    replace q252 := eq_true q252
    refine start_ (n := 36) (S := fun w' => w'.cell? ⟨gb241, 0, none⟩ = some (.slice (some ad249) l0_0.length c0_0) ∧ w'.cell? ⟨gb241, 1, none⟩ = some (.slice A0_1 l0_1.length c0_1) ∧ w'.cell? ⟨gb242, 0, none⟩ = some (.slice (some ad248) l1_0.length c1_0) ∧ w'.cell? ⟨gb242, 1, none⟩ = some (.slice A1_1 l1_1.length c1_1) ∧ w'.cell? ad248 = some (.int .i64 (rd l1_0 0)) ∧ w'.cell? ad249 = some (.int .i64 (rd l0_0 0)) ∧ w'.cell? ⟨ad248.block, ad248.off + 2, none⟩ = some (.int .i64 (rd l1_0 2)) ∧ w'.cell? ⟨ad249.block, ad249.off + 1, none⟩ = some (.int .i64 (rd l0_0 1))) (ds := []) #[false, false, false, false, false, false, false, false, false, false, false, false, false, false, false, false, false, false, false, false, false, false, false, false, false, false, false, false, false, false, false, false, false, false, false, false] (by kernel_rfl) rfl rfl ⟨(blk_cell BK241.out 0).trans rfl, (blk_cell BK241.out 1).trans rfl, (blk_cell BK242.out 0).trans rfl, (blk_cell BK242.out 1).trans rfl, ((HB.out.cell (World.block_lt_of_cell? w _ hw248_0)).trans hw248_0), ((HB.out.cell (World.block_lt_of_cell? w _ hw249_0)).trans hw249_0), ((HB.out.cell (World.block_lt_of_cell? w _ hw250_0)).trans hw250_0), ((HB.out.cell (World.block_lt_of_cell? w _ hw252_0)).trans hw252_0)⟩ (fun hHeld => ?_); refine with_tabW conv_BackIn.tab3 conv_BackIn.bits3 (fun HT_ HW_ => ?_)
    generalize wc.drew = w131 at BK241 BK242 BK243 HB hx248_0 hx249_0 hx250_0 hx252_0 hHeld ⊢
    refine yp_ ?_ 0 44
    refine yt8_ ?_ 1 45
    refine yp_ ?_ 2 46
    refine yp_ ?_ 3 47
    refine yp_ ?_ 4 48
    refine yp_ ?_ 5 49
    refine yt8_ ?_ 6 50
    refine yp_ ?_ 7 51
    refine yp_ ?_ 8 52
    refine yp_ ?_ 9 53
    refine yp_ ?_ 10 54
    refine yp_ ?_ 11 55
    refine yp_ ?_ 15 59
    refine yt8_ ?_ 12 56
    refine yp_ ?_ 13 57
    refine yt8_ ?_ 14 58
    refine yt8_ ?_ 16 60
    refine yp_ ?_ 17 61
    refine yt8_ ?_ 18 62
    refine yp_ ?_ 19 63
    refine yp_ ?_ 20 64
    refine yp_ ?_ 21 65
    refine yp_ ?_ 22 66
    refine yp_ ?_ 23 67
    refine yp_ ?_ 27 71
    refine yp_ ?_ 29 73
    refine yt8_ ?_ 24 68
    refine yp_ ?_ 25 69
    refine yt8_ ?_ 26 70
    refine yt8_ ?_ 30 74
    refine yp_ ?_ 31 75
    refine yt8_ ?_ 32 76
    refine yo_ 28 (some 72) (fun K hK => ?_)
    refine yg_ Try.func28 #[.int .i64 a3, .int .i64 (rd l1_0 2), .int .i64 a2] ?_
    with_reducible refine (conv_windows.calls a3 (rd l1_0 2) a2 t251 _ A51.out).mono ?_
    rintro e w' ⟨rfl, ⟨nd, rfl⟩⟩
    refine ⟨_, rfl, ?_⟩
    refine hK.out _ _ ⟨(blk_cell BK241.out 0).trans rfl, (blk_cell BK241.out 1).trans rfl, (blk_cell BK242.out 0).trans rfl, (blk_cell BK242.out 1).trans rfl, ((HB.out.cell (World.block_lt_of_cell? w _ hw248_0)).trans hw248_0), ((HB.out.cell (World.block_lt_of_cell? w _ hw249_0)).trans hw249_0), ((HB.out.cell (World.block_lt_of_cell? w _ hw250_0)).trans hw250_0), ((HB.out.cell (World.block_lt_of_cell? w _ hw252_0)).trans hw252_0)⟩ (fun hHeld => ?_)
    clear hK K
    refine zq_ (some 72) (h := ?_)
    refine yp_ ?_ 33 77
    refine yp_ ?_ 34 78
    refine yp_ ?_ 35 43
    refine done_ (done_of HT_.out (by kernel_rfl)) ?_
    have hnb132 := NB243_241.out
    have hnc132 := NB241_243.out
    have hnb133 := NB243_242.out
    have hnc133 := NB242_243.out
    have hcz134_0 := zx_ (v := .slice none 0 0) BK243 0
    have hcz134_1 := zx_ (v := .slice none 0 0) BK243 1
    have hfz134_0 := blk_frozen BK243.out 0
    have hfz134_1 := blk_frozen BK243.out 1
    try go_wp2
    refine bodyPost_ret (results_ct rfl _ _ gb243 25 #[.slice none 0 0, .slice none 0 0] (0, 0) _ rfl (zo2_ BK243) Try.underlying25 rfl (by kernel_rfl)) rfl ?_
    exact ⟨_, _, z0_, z2_, z2_, zw3_ HB GE241 GE242 GE243⟩
   rw [if_pos c53] at H
   have c53b0 : (t251 == (rd l0_0 1)) = true := beq_iff_eq.mpr c53
   have c53b1 : (t251 != (rd l0_0 1)) = false := bne_eq_false_iff_eq.mpr c53
   clear c53
   by_cases c54 : 1 < (l1_0.length : Int)
   rotate_left
   ·rw [if_neg c54] at H
    exact absurd H (by simp)
   rw [if_pos c54] at H
   have c54b0 : decide (1 < (l1_0.length : Int)) = true := decide_eq_true c54
   have c54b1 : decide (1 < l1_0.length) = true := decide_eq_true (by omega)
   clear c54
   obtain ⟨y257, hy257⟩ : ∃ y_ : List Int, y_ = (([rd l1_0 1, a3] : List Int)) := ⟨_, rfl⟩
   replace H : ((conv_of.f kj4 y257).bind fun bt260 => (if bt260.2.2 = 0 then (conv_BackIn.l0 kj4 a2 a3 (rd l1_0 0) (rd l1_0 1) (rd l1_0 2) (rd l0_0 1) (bt260.2.1.length : Int) 0 l0_0 l0_1 l1_0 l1_1 bt260.1 bt260.2.1) else (some (([] : List Int), ([] : List Int), bt260.2.2)))) = some (r1, r2, r3) := by first | (rw [hy257]; with_reducible exact H) | (have H2_ := (Option.bind_some _ _).symm.trans H; rw [hy257]; with_reducible exact H2_) | (have H2_ := (Option.bind_some _ _).symm.trans H; with_reducible exact H2_) | with_reducible exact H | (rw [hy257]; exact H) | exact H
   have Ny257 := Aside0.mk hy257
   clear hy257
   replace H := Option.bind_eq_some_iff.mp H
   obtain ⟨⟨t260, t263, t266⟩, A550, H⟩ := H
   (try dsimp only at H)
   have A55 := Aside0.mk A550
   clear A550
   by_cases c56 : t266 = 0
   rotate_left
   ·rw [if_neg c56] at H
    have c56b0 : (t266 == 0) = false := beq_eq_false_iff_ne.mpr c56
    have c56b1 : (t266 != 0) = true := bne_iff_ne.mpr c56
    simp only [Option.some.injEq, Prod.mk.injEq] at H
    obtain ⟨rfl, rfl, rfl⟩ := H
    try go_wp2
    replace BK241 := Aside0.mk (blk_drew BK241.out)
    replace BK242 := Aside0.mk (blk_drew BK242.out)
    replace BK243 := Aside0.mk (blk_drew BK243.out)
    replace HB := Aside0.mk (below_drew1 HB.out)
    have p248 : 0 ≤ (0 : Int) := (by omega)
    have q248 : 0 < (l1_0.length : Int) := of_decide_eq_true (by first | (with_reducible assumption) | assumption)
    obtain ⟨ad248, e248, hx248_0⟩ := Kd.at_int HR1_0.out 0 p248 q248
    have hw248_0 := hx248_0
    (try rw [show ((0 : Int)).toNat = 0 from rfl] at hw248_0)
    (try rw [show 0 * 1 = 0 from rfl] at hw248_0)
    (try rw [Addr.add_zero'] at hw248_0)
    cases e248
    have qi248 : (0 < l1_0.length) = True := eq_true (by omega)
    (try rw [show ((0 : Int)).toNat = 0 from rfl] at hx248_0)
    (try rw [Addr.add_zero'] at hx248_0)
    replace hx248_0 := (HB.out.cell (World.block_lt_of_cell? w _ hx248_0)).trans hx248_0
    replace p248 := eq_true p248
    replace q248 := eq_true q248
    have p249 : 0 ≤ (0 : Int) := (by omega)
    have q249 : 0 < (l0_0.length : Int) := of_decide_eq_true (by first | (with_reducible assumption) | assumption)
    obtain ⟨ad249, e249, hx249_0⟩ := Kd.at_int HR0_0.out 0 p249 q249
    have hw249_0 := hx249_0
    (try rw [show ((0 : Int)).toNat = 0 from rfl] at hw249_0)
    (try rw [show 0 * 1 = 0 from rfl] at hw249_0)
    (try rw [Addr.add_zero'] at hw249_0)
    cases e249
    have qi249 : (0 < l0_0.length) = True := eq_true (by omega)
    (try rw [show ((0 : Int)).toNat = 0 from rfl] at hx249_0)
    (try rw [Addr.add_zero'] at hx249_0)
    replace hx249_0 := (HB.out.cell (World.block_lt_of_cell? w _ hx249_0)).trans hx249_0
    replace p249 := eq_true p249
    replace q249 := eq_true q249
    have p250 : 0 ≤ (2 : Int) := (by omega)
    have q250 : 2 < (l1_0.length : Int) := of_decide_eq_true (by first | (with_reducible assumption) | assumption)
    obtain ⟨ad250, e250, hx250_0⟩ := Kd.at_int HR1_0.out 2 p250 q250
    have hw250_0 := hx250_0
    (try rw [show ((2 : Int)).toNat = 2 from rfl] at hw250_0)
    (try rw [show 2 * 1 = 2 from rfl] at hw250_0)
    (try simp only [Nat.reduceMul, Nat.reduceEqDiff, Go.Addr.add, ↓reduceIte] at hw250_0)
    obtain rfl : ad248 = ad250 := (by injection e250)
    (try simp only [show (2 : Int).toNat = 2 from rfl, Nat.reduceMul, Nat.reduceEqDiff, Go.Addr.add, ↓reduceIte] at hx250_0)
    have qi250 : (2 < l1_0.length) = True := eq_true (by omega)
    (try rw [show ((2 : Int)).toNat = 2 from rfl] at hx250_0)
    replace hx250_0 := (HB.out.cell (World.block_lt_of_cell? w _ hx250_0)).trans hx250_0
    replace p250 := eq_true p250
    replace q250 := eq_true q250
    have p252 : 0 ≤ (1 : Int) := (by omega)
    have q252 : 1 < (l0_0.length : Int) := of_decide_eq_true (by first | (with_reducible assumption) | assumption)
    obtain ⟨ad252, e252, hx252_0⟩ := Kd.at_int HR0_0.out 1 p252 q252
    have hw252_0 := hx252_0
    (try rw [show ((1 : Int)).toNat = 1 from rfl] at hw252_0)
    (try rw [show 1 * 1 = 1 from rfl] at hw252_0)
    (try simp only [Nat.reduceMul, Nat.reduceEqDiff, Go.Addr.add, ↓reduceIte] at hw252_0)
    obtain rfl : ad249 = ad252 := (by injection e252)
    (try simp only [show (1 : Int).toNat = 1 from rfl, Nat.reduceMul, Nat.reduceEqDiff, Go.Addr.add, ↓reduceIte] at hx252_0)
    have qi252 : (1 < l0_0.length) = True := eq_true (by omega)
    (try rw [show ((1 : Int)).toNat = 1 from rfl] at hx252_0)
    replace hx252_0 := (HB.out.cell (World.block_lt_of_cell? w _ hx252_0)).trans hx252_0
    replace p252 := eq_true p252
    replace q252 := eq_true q252
    refine start_ (n := 36) (S := fun w' => w'.cell? ⟨gb241, 0, none⟩ = some (.slice (some ad249) l0_0.length c0_0) ∧ w'.cell? ⟨gb241, 1, none⟩ = some (.slice A0_1 l0_1.length c0_1) ∧ w'.cell? ⟨gb242, 0, none⟩ = some (.slice (some ad248) l1_0.length c1_0) ∧ w'.cell? ⟨gb242, 1, none⟩ = some (.slice A1_1 l1_1.length c1_1) ∧ w'.cell? ad248 = some (.int .i64 (rd l1_0 0)) ∧ w'.cell? ad249 = some (.int .i64 (rd l0_0 0)) ∧ w'.cell? ⟨ad248.block, ad248.off + 2, none⟩ = some (.int .i64 (rd l1_0 2)) ∧ w'.cell? ⟨ad249.block, ad249.off + 1, none⟩ = some (.int .i64 (rd l0_0 1))) (ds := []) #[false, false, false, false, false, false, false, false, false, false, false, false, false, false, false, false, false, false, false, false, false, false, false, false, false, false, false, false, false, false, false, false, false, false, false, false] (by kernel_rfl) rfl rfl ⟨(blk_cell BK241.out 0).trans rfl, (blk_cell BK241.out 1).trans rfl, (blk_cell BK242.out 0).trans rfl, (blk_cell BK242.out 1).trans rfl, ((HB.out.cell (World.block_lt_of_cell? w _ hw248_0)).trans hw248_0), ((HB.out.cell (World.block_lt_of_cell? w _ hw249_0)).trans hw249_0), ((HB.out.cell (World.block_lt_of_cell? w _ hw250_0)).trans hw250_0), ((HB.out.cell (World.block_lt_of_cell? w _ hw252_0)).trans hw252_0)⟩ (fun hHeld => ?_); refine with_tabW conv_BackIn.tab3 conv_BackIn.bits3 (fun HT_ HW_ => ?_)
    generalize wc.drew = w115 at BK241 BK242 BK243 HB hx248_0 hx249_0 hx250_0 hx252_0 hHeld ⊢
    refine yp_ ?_ 0 44
    refine yt8_ ?_ 1 45
    refine yp_ ?_ 2 46
    refine yp_ ?_ 3 47
    refine yp_ ?_ 4 48
    refine yp_ ?_ 5 49
    refine yt8_ ?_ 6 50
    refine yp_ ?_ 7 51
    refine yp_ ?_ 8 52
    refine yp_ ?_ 9 53
    refine yp_ ?_ 10 54
    refine yp_ ?_ 11 55
    refine yp_ ?_ 15 59
    refine yt8_ ?_ 12 56
    refine yp_ ?_ 13 57
    refine yt8_ ?_ 14 58
    refine yt8_ ?_ 16 60
    refine yp_ ?_ 17 61
    refine yt8_ ?_ 18 62
    refine yp_ ?_ 19 63
    refine yp_ ?_ 20 64
    refine yp_ ?_ 21 65
    refine yp_ ?_ 22 66
    refine yp_ ?_ 23 67
    refine yp_ ?_ 27 71
    refine yp_ ?_ 29 73
    refine yt8_ ?_ 24 68
    refine yp_ ?_ 25 69
    refine yt8_ ?_ 26 70
    refine yt8_ ?_ 30 74
    refine yp_ ?_ 31 75
    refine yt8_ ?_ 32 76
    refine yo_ 28 (some 72) (fun K hK => ?_)
    refine yg_ Try.func28 #[.int .i64 a3, .int .i64 (rd l1_0 2), .int .i64 a2] ?_
    with_reducible refine (conv_windows.calls a3 (rd l1_0 2) a2 t251 _ A51.out).mono ?_
    rintro e w' ⟨rfl, ⟨nd, rfl⟩⟩
    refine ⟨_, rfl, ?_⟩
    refine hK.out _ _ ⟨(blk_cell BK241.out 0).trans rfl, (blk_cell BK241.out 1).trans rfl, (blk_cell BK242.out 0).trans rfl, (blk_cell BK242.out 1).trans rfl, ((HB.out.cell (World.block_lt_of_cell? w _ hw248_0)).trans hw248_0), ((HB.out.cell (World.block_lt_of_cell? w _ hw249_0)).trans hw249_0), ((HB.out.cell (World.block_lt_of_cell? w _ hw250_0)).trans hw250_0), ((HB.out.cell (World.block_lt_of_cell? w _ hw252_0)).trans hw252_0)⟩ (fun hHeld => ?_)
    clear hK K
    refine zq_ (some 72) (h := ?_)
    refine yp_ ?_ 33 77
    refine yp_ ?_ 34 78
    refine yp_ ?_ 35 43
    refine done_ (done_of HT_.out (by kernel_rfl)) ?_
    try go_wp2
    (try (rw [drewN_self w115]; generalize hq_ : World.drewN w115 _ = w115; have n0_ : Aside0 (w115.heap[gb241]? = some (.cells #[.slice (some ad249) l0_0.length c0_0, .slice A0_1 l0_1.length c0_1] 25 (0, 0))) := ⟨by rw [← hq_]; exact (zb_ BK241)⟩; have n1_ : Aside0 (w115.heap[gb242]? = some (.cells #[.slice (some ad248) l1_0.length c1_0, .slice A1_1 l1_1.length c1_1] 25 (0, 0))) := ⟨by rw [← hq_]; exact (zb_ BK242)⟩; have n2_ : Aside0 (w115.heap[gb243]? = some (.cells #[.slice none 0 0, .slice none 0 0] 25 (0, 0))) := ⟨by rw [← hq_]; exact (zb_ BK243)⟩; have n3_ : Aside0 (Below w.heap.size w w115) := ⟨by rw [← hq_]; exact (zw3_ HB GE241 GE242 GE243)⟩; clear BK241 BK242 BK243 HB hq_; have BK241 := n0_; have BK242 := n1_; have BK243 := n2_; have HB := n3_; clear n0_ n1_ n2_ n3_))
    replace BK241 := Aside0.mk (blk_drew BK241.out)
    replace BK242 := Aside0.mk (blk_drew BK242.out)
    replace BK243 := Aside0.mk (blk_drew BK243.out)
    replace HB := Aside0.mk (below_drew1 HB.out)
    have p253 : 0 ≤ (0 : Int) := (by omega)
    have q253 : 0 < (l1_0.length : Int) := of_decide_eq_true (by first | (with_reducible assumption) | assumption)
    obtain ⟨ad253, e253, hx253_0⟩ := Kd.at_int HR1_0.out 0 p253 q253
    have hw253_0 := hx253_0
    (try rw [show ((0 : Int)).toNat = 0 from rfl] at hw253_0)
    (try rw [show 0 * 1 = 0 from rfl] at hw253_0)
    (try rw [Addr.add_zero'] at hw253_0)
    obtain rfl : ad248 = ad253 := (by injection e253)
    have qi253 : (0 < l1_0.length) = True := eq_true (by omega)
    (try rw [show ((0 : Int)).toNat = 0 from rfl] at hx253_0)
    (try rw [Addr.add_zero'] at hx253_0)
    replace hx253_0 := (HB.out.cell (World.block_lt_of_cell? w _ hx253_0)).trans hx253_0
    replace p253 := eq_true p253
    replace q253 := eq_true q253
    have p254 : 0 ≤ (1 : Int) := (by omega)
    have q254 : 1 < (l1_0.length : Int) := of_decide_eq_true (by first | (with_reducible assumption) | assumption)
    obtain ⟨ad254, e254, hx254_0⟩ := Kd.at_int HR1_0.out 1 p254 q254
    have hw254_0 := hx254_0
    (try rw [show ((1 : Int)).toNat = 1 from rfl] at hw254_0)
    (try rw [show 1 * 1 = 1 from rfl] at hw254_0)
    (try simp only [Nat.reduceMul, Nat.reduceEqDiff, Go.Addr.add, ↓reduceIte] at hw254_0)
    obtain rfl : ad248 = ad254 := (by injection e254)
    (try simp only [show (1 : Int).toNat = 1 from rfl, Nat.reduceMul, Nat.reduceEqDiff, Go.Addr.add, ↓reduceIte] at hx254_0)
    have qi254 : (1 < l1_0.length) = True := eq_true (by omega)
    (try rw [show ((1 : Int)).toNat = 1 from rfl] at hx254_0)
    replace hx254_0 := (HB.out.cell (World.block_lt_of_cell? w _ hx254_0)).trans hx254_0
    replace p254 := eq_true p254
    replace q254 := eq_true q254
    have p255 : 0 ≤ (2 : Int) := (by omega)
    have q255 : 2 < (l1_0.length : Int) := of_decide_eq_true (by first | (with_reducible assumption) | assumption)
    obtain ⟨ad255, e255, hx255_0⟩ := Kd.at_int HR1_0.out 2 p255 q255
    have hw255_0 := hx255_0
    (try rw [show ((2 : Int)).toNat = 2 from rfl] at hw255_0)
    (try rw [show 2 * 1 = 2 from rfl] at hw255_0)
    (try simp only [Nat.reduceMul, Nat.reduceEqDiff, Go.Addr.add, ↓reduceIte] at hw255_0)
    obtain rfl : ad248 = ad255 := (by injection e255)
    (try simp only [show (2 : Int).toNat = 2 from rfl, Nat.reduceMul, Nat.reduceEqDiff, Go.Addr.add, ↓reduceIte] at hx255_0)
    have qi255 : (2 < l1_0.length) = True := eq_true (by omega)
    (try rw [show ((2 : Int)).toNat = 2 from rfl] at hx255_0)
    replace hx255_0 := (HB.out.cell (World.block_lt_of_cell? w _ hx255_0)).trans hx255_0
    replace p255 := eq_true p255
    replace q255 := eq_true q255
    have p256 : 0 ≤ (1 : Int) := (by omega)
    have q256 : 1 < (l0_0.length : Int) := of_decide_eq_true (by first | (with_reducible assumption) | assumption)
    obtain ⟨ad256, e256, hx256_0⟩ := Kd.at_int HR0_0.out 1 p256 q256
    have hw256_0 := hx256_0
    (try rw [show ((1 : Int)).toNat = 1 from rfl] at hw256_0)
    (try rw [show 1 * 1 = 1 from rfl] at hw256_0)
    (try simp only [Nat.reduceMul, Nat.reduceEqDiff, Go.Addr.add, ↓reduceIte] at hw256_0)
    obtain rfl : ad249 = ad256 := (by injection e256)
    (try simp only [show (1 : Int).toNat = 1 from rfl, Nat.reduceMul, Nat.reduceEqDiff, Go.Addr.add, ↓reduceIte] at hx256_0)
    have qi256 : (1 < l0_0.length) = True := eq_true (by omega)
    (try rw [show ((1 : Int)).toNat = 1 from rfl] at hx256_0)
    replace hx256_0 := (HB.out.cell (World.block_lt_of_cell? w _ hx256_0)).trans hx256_0
    replace p256 := eq_true p256
    replace q256 := eq_true q256
    refine start_ (n := 20) (S := fun w' => w'.cell? ⟨gb242, 0, none⟩ = some (.slice (some ad248) l1_0.length c1_0) ∧ w'.cell? ⟨gb242, 1, none⟩ = some (.slice A1_1 l1_1.length c1_1) ∧ w'.cell? ⟨gb241, 0, none⟩ = some (.slice (some ad249) l0_0.length c0_0) ∧ w'.cell? ⟨gb241, 1, none⟩ = some (.slice A0_1 l0_1.length c0_1) ∧ w'.cell? ad248 = some (.int .i64 (rd l1_0 0)) ∧ w'.cell? ⟨ad248.block, ad248.off + 1, none⟩ = some (.int .i64 (rd l1_0 1)) ∧ w'.cell? ⟨ad248.block, ad248.off + 2, none⟩ = some (.int .i64 (rd l1_0 2)) ∧ w'.cell? ⟨ad249.block, ad249.off + 1, none⟩ = some (.int .i64 (rd l0_0 1))) (ds := []) #[false, false, false, false, false, false, false, false, false, false, false, false, false, false, false, false, false, false, false, false] (by kernel_rfl) rfl rfl ⟨(blk_cell BK242.out 0).trans rfl, (blk_cell BK242.out 1).trans rfl, (blk_cell BK241.out 0).trans rfl, (blk_cell BK241.out 1).trans rfl, ((HB.out.cell (World.block_lt_of_cell? w _ hw253_0)).trans hw253_0), ((HB.out.cell (World.block_lt_of_cell? w _ hw254_0)).trans hw254_0), ((HB.out.cell (World.block_lt_of_cell? w _ hw255_0)).trans hw255_0), ((HB.out.cell (World.block_lt_of_cell? w _ hw256_0)).trans hw256_0)⟩ (fun hHeld => ?_); refine with_tabW conv_BackIn.tab5 conv_BackIn.bits5 (fun HT_ HW_ => ?_)
    generalize w115.drew = w116 at BK241 BK242 BK243 HB hx253_0 hx254_0 hx255_0 hx256_0 hHeld ⊢
    refine yp_ ?_ 0 80
    refine yp_ ?_ 4 84
    refine yp_ ?_ 8 88
    refine yp_ ?_ 12 92
    refine yt8_ ?_ 1 81
    refine yp_ ?_ 2 82
    refine yt8_ ?_ 3 83
    refine yp_ ?_ 16 10
    refine yt8_ ?_ 5 85
    refine yp_ ?_ 6 86
    refine yt8_ ?_ 7 87
    refine yp_ ?_ 17 11
    refine yt8_ ?_ 9 89
    refine yp_ ?_ 10 90
    refine yt8_ ?_ 11 91
    refine yp_ ?_ 18 12
    refine yt8_ ?_ 13 93
    refine yp_ ?_ 14 94
    refine yt8_ ?_ 15 95
    refine yp_ ?_ 19 13
    refine done_ (done_of HT_.out (by kernel_rfl)) ?_
    try go_wp2_with (first | ((with_reducible refine gate_dst (N := 99) rfl ?_); (try (refine gate_guard (by rfl) ?_; dsimp only)); refine Kd.R_lit (Kd.int .i64) _ 3 ?hg (N := 99) ?hd (xs := ([rd l1_0 1, a3] : List Int)) (inner := [.int .i64 (rd l1_0 1), .int .i64 a3]) (ok := fun _ => True) (okp := fun _ => True) ?hr ?hp (fun _ hk => hk) trivial (Below.refl _ _) (Nat.le_refl _) (by simp) ?_; (case hd => rfl); (case hg => rfl); (case hr => first | (go_simp; done) | (go_simp; rfl)); (case hp => exact (Reps.one (show Kd.M (Kd.int .i64) _ _ _ (rd l1_0 1) [.int .i64 (rd l1_0 1)] from rfl) (Reps.one (show Kd.M (Kd.int .i64) _ _ _ a3 [.int .i64 a3] from rfl) (Reps.none _ _)))); intro v258 w117 ho118 hb hg_ hnew_; clear hg_ hnew_; (first | rw [← Ny257.out] at ho118 | (simp only [Int.reduceToNat] at ho118; rw [← Ny257.out] at ho118)); have HO259 := Aside0.mk (Kd.R_lower ho118 (below_size (zw3_ HB GE241 GE242 GE243))); replace BK241 := za_ BK241 hb; replace BK242 := za_ BK242 hb; replace BK243 := za_ BK243 hb; replace HB := Aside0.mk (below_step (zw3_ HB GE241 GE242 GE243) hb); clear hb ho118; obtain ⟨Ao119, co119, eo119⟩ := Kd.R_slice HO259.out; subst eo119) | ((with_reducible refine gate_callee (f := 29) rfl ?_); refine zg_ (some 100) Try.func29 #[.slice Ao119 y257.length co119] (h := ?_); (with_reducible refine (conv_of.calls kj4 _ _ y257 t260 t263 t266 _ ?side1 ?side2 A55.out).mono ?_); (case side1 => exact zk_ ((Kd.R_reads' HO259.out).2.2)); (case side2 => exact (Kd.R_reads' HO259.out).2.1); rintro e w120 ⟨v261, v264, rfl, ho0, ho1, hb⟩; refine ⟨_, rfl, ?_⟩; have HO262 := Aside0.mk (Kd.R_lower (Kd.R_new' ho0 (Kd.R_lt (zr_ HO259.out))) (below_size (zw3_ HB GE241 GE242 GE243))); replace HO259 := ze_ HO259 ho0 hb; have HO265 := Aside0.mk (Kd.R_lower ho1 (below_size (zw3_ HB GE241 GE242 GE243))); replace BK241 := za_ BK241 hb; replace BK242 := za_ BK242 hb; replace BK243 := za_ BK243 hb; replace HB := Aside0.mk (below_step (zw3_ HB GE241 GE242 GE243) hb); (try clear hb); (try clear ho0); (try clear ho1)) | ((with_reducible refine gate_dst (N := 14) rfl ?_); (try (refine gate_guard (by rfl) ?_; dsimp only)); refine box_event ?hg (N := 14) ?hd (cs := #[.slice none 0 0, .slice none 0 0]) (t := 25) ?hr ?_; (case hd => rfl); (case hg => rfl); (case hr => first | (go_simp; done) | (go_simp; rfl)); intro gb267 hg w121 hbox hb; replace HO259 := zy_ HO259 hb; replace HO262 := zy_ HO262 hb; replace HO265 := zy_ HO265 hb; have BK267 := Aside0.mk (hbox); have GW267 := Aside0.mk (zs_ hg (zw3_ HB GE241 GE242 GE243)); have GE267 := Aside0.mk (zs_ hg (zw3_ HB GE241 GE242 GE243)); replace HB := Aside0.mk (below_step (zw3_ HB GE241 GE242 GE243) hb); have NB241_267 := Aside0.mk (zn_ hg BK241); have NB267_241 := Aside0.mk (zm_ hg BK241); replace BK241 := za_ BK241 hb; have NB242_267 := Aside0.mk (zn_ hg BK242); have NB267_242 := Aside0.mk (zm_ hg BK242); replace BK242 := za_ BK242 hb; have NB243_267 := Aside0.mk (zn_ hg BK243); have NB267_243 := Aside0.mk (zm_ hg BK243); replace BK243 := za_ BK243 hb; clear hb hbox hg; obtain ⟨Ao122, co122, eo122⟩ := Kd.R_slice HO262.out; subst eo122; have hnb123 := NB267_241.out; have hnc123 := NB241_267.out; have hnb124 := NB267_242.out; have hnc124 := NB242_267.out; have hnb125 := NB267_243.out; have hnc125 := NB243_267.out; have hcz126_0 := zx_ (v := .slice none 0 0) BK267 0; have hcz126_1 := zx_ (v := .slice none 0 0) BK267 1; have hfz126_0 := blk_frozen BK267.out 0; have hfz126_1 := blk_frozen BK267.out 1; obtain ⟨Ao127, co127, eo127⟩ := Kd.R_slice HO265.out; subst eo127; have hnb128 := NB243_241.out; have hnc128 := NB241_243.out; have hnb129 := NB243_242.out; have hnc129 := NB242_243.out; have hcz130_0 := zx_ (v := .slice none 0 0) BK243 0; have hcz130_1 := zx_ (v := .slice none 0 0) BK243 1; have hfz130_0 := blk_frozen BK243.out 0; have hfz130_1 := blk_frozen BK243.out 1))
    refine bodyPost_ret (results_ct rfl _ _ gb243 25 #[.slice none 0 0, .slice none 0 0] (0, 0) _ rfl (by (with_reducible repeat (first | refine blk_drewN ?_ _ | refine blk_drew ?_ | refine blk_alloc ?_ _)); refine blk_put (cs := #[.slice none 0 0, .slice none 0 0]) ?_ 1 _ rfl; (with_reducible repeat (first | refine blk_drewN ?_ _ | refine blk_drew ?_ | refine blk_alloc ?_ _)); refine blk_put (cs := #[.slice none 0 0, .slice none 0 0]) ?_ 0 _ rfl; (with_reducible repeat (first | refine blk_drewN ?_ _ | refine blk_drew ?_ | refine blk_alloc ?_ _)); refine blk_far ?_ NB243_267.out _; (with_reducible repeat (first | refine blk_drewN ?_ _ | refine blk_drew ?_ | refine blk_alloc ?_ _)); refine blk_far ?_ NB243_267.out _; (with_reducible repeat (first | refine blk_drewN ?_ _ | refine blk_drew ?_ | refine blk_alloc ?_ _)); exact BK243.out) Try.underlying25 rfl (by kernel_rfl)) rfl ?_
    exact ⟨_, _, z0_, z2_, z2_, zw4_ HB GE241 GE242 GE243 GE267⟩
   rw [if_pos c56] at H
   have c56b0 : (t266 == 0) = true := beq_iff_eq.mpr c56
   have c56b1 : (t266 != 0) = false := bne_eq_false_iff_eq.mpr c56
   clear c56
   have H' := Aside0.mk H
   clear H
   try go_wp2
   replace BK241 := Aside0.mk (blk_drew BK241.out)
   replace BK242 := Aside0.mk (blk_drew BK242.out)
   replace BK243 := Aside0.mk (blk_drew BK243.out)
   replace HB := Aside0.mk (below_drew1 HB.out)
   have p248 : 0 ≤ (0 : Int) := (by omega)
   have q248 : 0 < (l1_0.length : Int) := of_decide_eq_true (by first | (with_reducible assumption) | assumption)
   obtain ⟨ad248, e248, hx248_0⟩ := Kd.at_int HR1_0.out 0 p248 q248
   have hw248_0 := hx248_0
   (try rw [show ((0 : Int)).toNat = 0 from rfl] at hw248_0)
   (try rw [show 0 * 1 = 0 from rfl] at hw248_0)
   (try rw [Addr.add_zero'] at hw248_0)
   cases e248
   have qi248 : (0 < l1_0.length) = True := eq_true (by omega)
   (try rw [show ((0 : Int)).toNat = 0 from rfl] at hx248_0)
   (try rw [Addr.add_zero'] at hx248_0)
   replace hx248_0 := (HB.out.cell (World.block_lt_of_cell? w _ hx248_0)).trans hx248_0
   replace p248 := eq_true p248
   replace q248 := eq_true q248
   have p249 : 0 ≤ (0 : Int) := (by omega)
   have q249 : 0 < (l0_0.length : Int) := of_decide_eq_true (by first | (with_reducible assumption) | assumption)
   obtain ⟨ad249, e249, hx249_0⟩ := Kd.at_int HR0_0.out 0 p249 q249
   have hw249_0 := hx249_0
   (try rw [show ((0 : Int)).toNat = 0 from rfl] at hw249_0)
   (try rw [show 0 * 1 = 0 from rfl] at hw249_0)
   (try rw [Addr.add_zero'] at hw249_0)
   cases e249
   have qi249 : (0 < l0_0.length) = True := eq_true (by omega)
   (try rw [show ((0 : Int)).toNat = 0 from rfl] at hx249_0)
   (try rw [Addr.add_zero'] at hx249_0)
   replace hx249_0 := (HB.out.cell (World.block_lt_of_cell? w _ hx249_0)).trans hx249_0
   replace p249 := eq_true p249
   replace q249 := eq_true q249
   have p250 : 0 ≤ (2 : Int) := (by omega)
   have q250 : 2 < (l1_0.length : Int) := of_decide_eq_true (by first | (with_reducible assumption) | assumption)
   obtain ⟨ad250, e250, hx250_0⟩ := Kd.at_int HR1_0.out 2 p250 q250
   have hw250_0 := hx250_0
   (try rw [show ((2 : Int)).toNat = 2 from rfl] at hw250_0)
   (try rw [show 2 * 1 = 2 from rfl] at hw250_0)
   (try simp only [Nat.reduceMul, Nat.reduceEqDiff, Go.Addr.add, ↓reduceIte] at hw250_0)
   obtain rfl : ad248 = ad250 := (by injection e250)
   (try simp only [show (2 : Int).toNat = 2 from rfl, Nat.reduceMul, Nat.reduceEqDiff, Go.Addr.add, ↓reduceIte] at hx250_0)
   have qi250 : (2 < l1_0.length) = True := eq_true (by omega)
   (try rw [show ((2 : Int)).toNat = 2 from rfl] at hx250_0)
   replace hx250_0 := (HB.out.cell (World.block_lt_of_cell? w _ hx250_0)).trans hx250_0
   replace p250 := eq_true p250
   replace q250 := eq_true q250
   have p252 : 0 ≤ (1 : Int) := (by omega)
   have q252 : 1 < (l0_0.length : Int) := of_decide_eq_true (by first | (with_reducible assumption) | assumption)
   obtain ⟨ad252, e252, hx252_0⟩ := Kd.at_int HR0_0.out 1 p252 q252
   have hw252_0 := hx252_0
   (try rw [show ((1 : Int)).toNat = 1 from rfl] at hw252_0)
   (try rw [show 1 * 1 = 1 from rfl] at hw252_0)
   (try simp only [Nat.reduceMul, Nat.reduceEqDiff, Go.Addr.add, ↓reduceIte] at hw252_0)
   obtain rfl : ad249 = ad252 := (by injection e252)
   (try simp only [show (1 : Int).toNat = 1 from rfl, Nat.reduceMul, Nat.reduceEqDiff, Go.Addr.add, ↓reduceIte] at hx252_0)
   have qi252 : (1 < l0_0.length) = True := eq_true (by omega)
   (try rw [show ((1 : Int)).toNat = 1 from rfl] at hx252_0)
   replace hx252_0 := (HB.out.cell (World.block_lt_of_cell? w _ hx252_0)).trans hx252_0
   replace p252 := eq_true p252
   replace q252 := eq_true q252
   refine start_ (n := 36) (S := fun w' => w'.cell? ⟨gb241, 0, none⟩ = some (.slice (some ad249) l0_0.length c0_0) ∧ w'.cell? ⟨gb241, 1, none⟩ = some (.slice A0_1 l0_1.length c0_1) ∧ w'.cell? ⟨gb242, 0, none⟩ = some (.slice (some ad248) l1_0.length c1_0) ∧ w'.cell? ⟨gb242, 1, none⟩ = some (.slice A1_1 l1_1.length c1_1) ∧ w'.cell? ad248 = some (.int .i64 (rd l1_0 0)) ∧ w'.cell? ad249 = some (.int .i64 (rd l0_0 0)) ∧ w'.cell? ⟨ad248.block, ad248.off + 2, none⟩ = some (.int .i64 (rd l1_0 2)) ∧ w'.cell? ⟨ad249.block, ad249.off + 1, none⟩ = some (.int .i64 (rd l0_0 1))) (ds := []) #[false, false, false, false, false, false, false, false, false, false, false, false, false, false, false, false, false, false, false, false, false, false, false, false, false, false, false, false, false, false, false, false, false, false, false, false] (by kernel_rfl) rfl rfl ⟨(blk_cell BK241.out 0).trans rfl, (blk_cell BK241.out 1).trans rfl, (blk_cell BK242.out 0).trans rfl, (blk_cell BK242.out 1).trans rfl, ((HB.out.cell (World.block_lt_of_cell? w _ hw248_0)).trans hw248_0), ((HB.out.cell (World.block_lt_of_cell? w _ hw249_0)).trans hw249_0), ((HB.out.cell (World.block_lt_of_cell? w _ hw250_0)).trans hw250_0), ((HB.out.cell (World.block_lt_of_cell? w _ hw252_0)).trans hw252_0)⟩ (fun hHeld => ?_); refine with_tabW conv_BackIn.tab3 conv_BackIn.bits3 (fun HT_ HW_ => ?_)
   generalize wc.drew = w57 at BK241 BK242 BK243 HB hx248_0 hx249_0 hx250_0 hx252_0 hHeld ⊢
   refine yp_ ?_ 0 44
   refine yt8_ ?_ 1 45
   refine yp_ ?_ 2 46
   refine yp_ ?_ 3 47
   refine yp_ ?_ 4 48
   refine yp_ ?_ 5 49
   refine yt8_ ?_ 6 50
   refine yp_ ?_ 7 51
   refine yp_ ?_ 8 52
   refine yp_ ?_ 9 53
   refine yp_ ?_ 10 54
   refine yp_ ?_ 11 55
   refine yp_ ?_ 15 59
   refine yt8_ ?_ 12 56
   refine yp_ ?_ 13 57
   refine yt8_ ?_ 14 58
   refine yt8_ ?_ 16 60
   refine yp_ ?_ 17 61
   refine yt8_ ?_ 18 62
   refine yp_ ?_ 19 63
   refine yp_ ?_ 20 64
   refine yp_ ?_ 21 65
   refine yp_ ?_ 22 66
   refine yp_ ?_ 23 67
   refine yp_ ?_ 27 71
   refine yp_ ?_ 29 73
   refine yt8_ ?_ 24 68
   refine yp_ ?_ 25 69
   refine yt8_ ?_ 26 70
   refine yt8_ ?_ 30 74
   refine yp_ ?_ 31 75
   refine yt8_ ?_ 32 76
   refine yo_ 28 (some 72) (fun K hK => ?_)
   refine yg_ Try.func28 #[.int .i64 a3, .int .i64 (rd l1_0 2), .int .i64 a2] ?_
   with_reducible refine (conv_windows.calls a3 (rd l1_0 2) a2 t251 _ A51.out).mono ?_
   rintro e w' ⟨rfl, ⟨nd, rfl⟩⟩
   refine ⟨_, rfl, ?_⟩
   refine hK.out _ _ ⟨(blk_cell BK241.out 0).trans rfl, (blk_cell BK241.out 1).trans rfl, (blk_cell BK242.out 0).trans rfl, (blk_cell BK242.out 1).trans rfl, ((HB.out.cell (World.block_lt_of_cell? w _ hw248_0)).trans hw248_0), ((HB.out.cell (World.block_lt_of_cell? w _ hw249_0)).trans hw249_0), ((HB.out.cell (World.block_lt_of_cell? w _ hw250_0)).trans hw250_0), ((HB.out.cell (World.block_lt_of_cell? w _ hw252_0)).trans hw252_0)⟩ (fun hHeld => ?_)
   clear hK K
   refine zq_ (some 72) (h := ?_)
   refine yp_ ?_ 33 77
   refine yp_ ?_ 34 78
   refine yp_ ?_ 35 43
   refine done_ (done_of HT_.out (by kernel_rfl)) ?_
   try go_wp2
   (try (rw [drewN_self w57]; generalize hq_ : World.drewN w57 _ = w57; have n0_ : Aside0 (w57.heap[gb241]? = some (.cells #[.slice (some ad249) l0_0.length c0_0, .slice A0_1 l0_1.length c0_1] 25 (0, 0))) := ⟨by rw [← hq_]; exact (zb_ BK241)⟩; have n1_ : Aside0 (w57.heap[gb242]? = some (.cells #[.slice (some ad248) l1_0.length c1_0, .slice A1_1 l1_1.length c1_1] 25 (0, 0))) := ⟨by rw [← hq_]; exact (zb_ BK242)⟩; have n2_ : Aside0 (w57.heap[gb243]? = some (.cells #[.slice none 0 0, .slice none 0 0] 25 (0, 0))) := ⟨by rw [← hq_]; exact (zb_ BK243)⟩; have n3_ : Aside0 (Below w.heap.size w w57) := ⟨by rw [← hq_]; exact (zw3_ HB GE241 GE242 GE243)⟩; clear BK241 BK242 BK243 HB hq_; have BK241 := n0_; have BK242 := n1_; have BK243 := n2_; have HB := n3_; clear n0_ n1_ n2_ n3_))
   replace BK241 := Aside0.mk (blk_drew BK241.out)
   replace BK242 := Aside0.mk (blk_drew BK242.out)
   replace BK243 := Aside0.mk (blk_drew BK243.out)
   replace HB := Aside0.mk (below_drew1 HB.out)
   have p253 : 0 ≤ (0 : Int) := (by omega)
   have q253 : 0 < (l1_0.length : Int) := of_decide_eq_true (by first | (with_reducible assumption) | assumption)
   obtain ⟨ad253, e253, hx253_0⟩ := Kd.at_int HR1_0.out 0 p253 q253
   have hw253_0 := hx253_0
   (try rw [show ((0 : Int)).toNat = 0 from rfl] at hw253_0)
   (try rw [show 0 * 1 = 0 from rfl] at hw253_0)
   (try rw [Addr.add_zero'] at hw253_0)
   obtain rfl : ad248 = ad253 := (by injection e253)
   have qi253 : (0 < l1_0.length) = True := eq_true (by omega)
   (try rw [show ((0 : Int)).toNat = 0 from rfl] at hx253_0)
   (try rw [Addr.add_zero'] at hx253_0)
   replace hx253_0 := (HB.out.cell (World.block_lt_of_cell? w _ hx253_0)).trans hx253_0
   replace p253 := eq_true p253
   replace q253 := eq_true q253
   have p254 : 0 ≤ (1 : Int) := (by omega)
   have q254 : 1 < (l1_0.length : Int) := of_decide_eq_true (by first | (with_reducible assumption) | assumption)
   obtain ⟨ad254, e254, hx254_0⟩ := Kd.at_int HR1_0.out 1 p254 q254
   have hw254_0 := hx254_0
   (try rw [show ((1 : Int)).toNat = 1 from rfl] at hw254_0)
   (try rw [show 1 * 1 = 1 from rfl] at hw254_0)
   (try simp only [Nat.reduceMul, Nat.reduceEqDiff, Go.Addr.add, ↓reduceIte] at hw254_0)
   obtain rfl : ad248 = ad254 := (by injection e254)
   (try simp only [show (1 : Int).toNat = 1 from rfl, Nat.reduceMul, Nat.reduceEqDiff, Go.Addr.add, ↓reduceIte] at hx254_0)
   have qi254 : (1 < l1_0.length) = True := eq_true (by omega)
   (try rw [show ((1 : Int)).toNat = 1 from rfl] at hx254_0)
   replace hx254_0 := (HB.out.cell (World.block_lt_of_cell? w _ hx254_0)).trans hx254_0
   replace p254 := eq_true p254
   replace q254 := eq_true q254
   have p255 : 0 ≤ (2 : Int) := (by omega)
   have q255 : 2 < (l1_0.length : Int) := of_decide_eq_true (by first | (with_reducible assumption) | assumption)
   obtain ⟨ad255, e255, hx255_0⟩ := Kd.at_int HR1_0.out 2 p255 q255
   have hw255_0 := hx255_0
   (try rw [show ((2 : Int)).toNat = 2 from rfl] at hw255_0)
   (try rw [show 2 * 1 = 2 from rfl] at hw255_0)
   (try simp only [Nat.reduceMul, Nat.reduceEqDiff, Go.Addr.add, ↓reduceIte] at hw255_0)
   obtain rfl : ad248 = ad255 := (by injection e255)
   (try simp only [show (2 : Int).toNat = 2 from rfl, Nat.reduceMul, Nat.reduceEqDiff, Go.Addr.add, ↓reduceIte] at hx255_0)
   have qi255 : (2 < l1_0.length) = True := eq_true (by omega)
   (try rw [show ((2 : Int)).toNat = 2 from rfl] at hx255_0)
   replace hx255_0 := (HB.out.cell (World.block_lt_of_cell? w _ hx255_0)).trans hx255_0
   replace p255 := eq_true p255
   replace q255 := eq_true q255
   have p256 : 0 ≤ (1 : Int) := (by omega)
   have q256 : 1 < (l0_0.length : Int) := of_decide_eq_true (by first | (with_reducible assumption) | assumption)
   obtain ⟨ad256, e256, hx256_0⟩ := Kd.at_int HR0_0.out 1 p256 q256
   have hw256_0 := hx256_0
   (try rw [show ((1 : Int)).toNat = 1 from rfl] at hw256_0)
   (try rw [show 1 * 1 = 1 from rfl] at hw256_0)
   (try simp only [Nat.reduceMul, Nat.reduceEqDiff, Go.Addr.add, ↓reduceIte] at hw256_0)
   obtain rfl : ad249 = ad256 := (by injection e256)
   (try simp only [show (1 : Int).toNat = 1 from rfl, Nat.reduceMul, Nat.reduceEqDiff, Go.Addr.add, ↓reduceIte] at hx256_0)
   have qi256 : (1 < l0_0.length) = True := eq_true (by omega)
   (try rw [show ((1 : Int)).toNat = 1 from rfl] at hx256_0)
   replace hx256_0 := (HB.out.cell (World.block_lt_of_cell? w _ hx256_0)).trans hx256_0
   replace p256 := eq_true p256
   replace q256 := eq_true q256
   refine start_ (n := 20) (S := fun w' => w'.cell? ⟨gb242, 0, none⟩ = some (.slice (some ad248) l1_0.length c1_0) ∧ w'.cell? ⟨gb242, 1, none⟩ = some (.slice A1_1 l1_1.length c1_1) ∧ w'.cell? ⟨gb241, 0, none⟩ = some (.slice (some ad249) l0_0.length c0_0) ∧ w'.cell? ⟨gb241, 1, none⟩ = some (.slice A0_1 l0_1.length c0_1) ∧ w'.cell? ad248 = some (.int .i64 (rd l1_0 0)) ∧ w'.cell? ⟨ad248.block, ad248.off + 1, none⟩ = some (.int .i64 (rd l1_0 1)) ∧ w'.cell? ⟨ad248.block, ad248.off + 2, none⟩ = some (.int .i64 (rd l1_0 2)) ∧ w'.cell? ⟨ad249.block, ad249.off + 1, none⟩ = some (.int .i64 (rd l0_0 1))) (ds := []) #[false, false, false, false, false, false, false, false, false, false, false, false, false, false, false, false, false, false, false, false] (by kernel_rfl) rfl rfl ⟨(blk_cell BK242.out 0).trans rfl, (blk_cell BK242.out 1).trans rfl, (blk_cell BK241.out 0).trans rfl, (blk_cell BK241.out 1).trans rfl, ((HB.out.cell (World.block_lt_of_cell? w _ hw253_0)).trans hw253_0), ((HB.out.cell (World.block_lt_of_cell? w _ hw254_0)).trans hw254_0), ((HB.out.cell (World.block_lt_of_cell? w _ hw255_0)).trans hw255_0), ((HB.out.cell (World.block_lt_of_cell? w _ hw256_0)).trans hw256_0)⟩ (fun hHeld => ?_); refine with_tabW conv_BackIn.tab5 conv_BackIn.bits5 (fun HT_ HW_ => ?_)
   generalize w57.drew = w58 at BK241 BK242 BK243 HB hx253_0 hx254_0 hx255_0 hx256_0 hHeld ⊢
   refine yp_ ?_ 0 80
   refine yp_ ?_ 4 84
   refine yp_ ?_ 8 88
   refine yp_ ?_ 12 92
   refine yt8_ ?_ 1 81
   refine yp_ ?_ 2 82
   refine yt8_ ?_ 3 83
   refine yp_ ?_ 16 10
   refine yt8_ ?_ 5 85
   refine yp_ ?_ 6 86
   refine yt8_ ?_ 7 87
   refine yp_ ?_ 17 11
   refine yt8_ ?_ 9 89
   refine yp_ ?_ 10 90
   refine yt8_ ?_ 11 91
   refine yp_ ?_ 18 12
   refine yt8_ ?_ 13 93
   refine yp_ ?_ 14 94
   refine yt8_ ?_ 15 95
   refine yp_ ?_ 19 13
   refine done_ (done_of HT_.out (by kernel_rfl)) ?_
   try go_wp2_with (first | ((with_reducible refine gate_dst (N := 99) rfl ?_); (try (refine gate_guard (by rfl) ?_; dsimp only)); refine Kd.R_lit (Kd.int .i64) _ 3 ?hg (N := 99) ?hd (xs := ([rd l1_0 1, a3] : List Int)) (inner := [.int .i64 (rd l1_0 1), .int .i64 a3]) (ok := fun _ => True) (okp := fun _ => True) ?hr ?hp (fun _ hk => hk) trivial (Below.refl _ _) (Nat.le_refl _) (by simp) ?_; (case hd => rfl); (case hg => rfl); (case hr => first | (go_simp; done) | (go_simp; rfl)); (case hp => exact (Reps.one (show Kd.M (Kd.int .i64) _ _ _ (rd l1_0 1) [.int .i64 (rd l1_0 1)] from rfl) (Reps.one (show Kd.M (Kd.int .i64) _ _ _ a3 [.int .i64 a3] from rfl) (Reps.none _ _)))); intro v258 w59 ho60 hb hg_ hnew_; clear hg_ hnew_; (first | rw [← Ny257.out] at ho60 | (simp only [Int.reduceToNat] at ho60; rw [← Ny257.out] at ho60)); have HO259 := Aside0.mk (Kd.R_lower ho60 (below_size (zw3_ HB GE241 GE242 GE243))); replace BK241 := za_ BK241 hb; replace BK242 := za_ BK242 hb; replace BK243 := za_ BK243 hb; replace HB := Aside0.mk (below_step (zw3_ HB GE241 GE242 GE243) hb); clear hb ho60; obtain ⟨Ao61, co61, eo61⟩ := Kd.R_slice HO259.out; subst eo61) | ((with_reducible refine gate_callee (f := 29) rfl ?_); refine zg_ (some 100) Try.func29 #[.slice Ao61 y257.length co61] (h := ?_); (with_reducible refine (conv_of.calls kj4 _ _ y257 t260 t263 t266 _ ?side1 ?side2 A55.out).mono ?_); (case side1 => exact zk_ ((Kd.R_reads' HO259.out).2.2)); (case side2 => exact (Kd.R_reads' HO259.out).2.1); rintro e w62 ⟨v261, v264, rfl, ho0, ho1, hb⟩; refine ⟨_, rfl, ?_⟩; have HO262 := Aside0.mk (Kd.R_lower (Kd.R_new' ho0 (Kd.R_lt (zr_ HO259.out))) (below_size (zw3_ HB GE241 GE242 GE243))); replace HO259 := ze_ HO259 ho0 hb; have HO265 := Aside0.mk (Kd.R_lower ho1 (below_size (zw3_ HB GE241 GE242 GE243))); replace BK241 := za_ BK241 hb; replace BK242 := za_ BK242 hb; replace BK243 := za_ BK243 hb; replace HB := Aside0.mk (below_step (zw3_ HB GE241 GE242 GE243) hb); (try clear hb); (try clear ho0); (try clear ho1)) | ((with_reducible refine gate_dst (N := 14) rfl ?_); (try (refine gate_guard (by rfl) ?_; dsimp only)); refine box_event ?hg (N := 14) ?hd (cs := #[.slice none 0 0, .slice none 0 0]) (t := 25) ?hr ?_; (case hd => rfl); (case hg => rfl); (case hr => first | (go_simp; done) | (go_simp; rfl)); intro gb267 hg w63 hbox hb; replace HO259 := zy_ HO259 hb; replace HO262 := zy_ HO262 hb; replace HO265 := zy_ HO265 hb; have BK267 := Aside0.mk (hbox); have GW267 := Aside0.mk (zs_ hg (zw3_ HB GE241 GE242 GE243)); have GE267 := Aside0.mk (zs_ hg (zw3_ HB GE241 GE242 GE243)); replace HB := Aside0.mk (below_step (zw3_ HB GE241 GE242 GE243) hb); have NB241_267 := Aside0.mk (zn_ hg BK241); have NB267_241 := Aside0.mk (zm_ hg BK241); replace BK241 := za_ BK241 hb; have NB242_267 := Aside0.mk (zn_ hg BK242); have NB267_242 := Aside0.mk (zm_ hg BK242); replace BK242 := za_ BK242 hb; have NB243_267 := Aside0.mk (zn_ hg BK243); have NB267_243 := Aside0.mk (zm_ hg BK243); replace BK243 := za_ BK243 hb; clear hb hbox hg; obtain ⟨Ao64, co64, eo64⟩ := Kd.R_slice HO262.out; subst eo64; have hnb65 := NB267_241.out; have hnc65 := NB241_267.out; have hnb66 := NB267_242.out; have hnc66 := NB242_267.out; have hnb67 := NB267_243.out; have hnc67 := NB243_267.out; have hcz68_0 := zx_ (v := .slice none 0 0) BK267 0; have hcz68_1 := zx_ (v := .slice none 0 0) BK267 1; have hfz68_0 := blk_frozen BK267.out 0; have hfz68_1 := blk_frozen BK267.out 1; obtain ⟨Ao69, co69, eo69⟩ := Kd.R_slice HO265.out; subst eo69))
   go_loopg [110] kj4 (fun kq v110 w' => ∃ (x110_2 : Int) (x268001_2 : List Int) (u268001 : Value), v110 = .int .i64 x110_2 ∧ Aside0 (conv_BackIn.l0 kq a2 a3 (rd l1_0 0) (rd l1_0 1) (rd l1_0 2) (rd l0_0 1) (t263.length : Int) x110_2 l0_0 l0_1 l1_0 l1_1 t260 x268001_2 = some (r1, r2, r3)) ∧ Aside0 (kq ≤ kj4) ∧ Aside0 (Kd.R (Kd.int .i64) 3 w' w.heap.size (fun _ => True) (.slice Ao64 t260.length co64) t260) ∧ Aside0 (Kd.R (Kd.int .i64) 33 w' w.heap.size (fun _ => True) u268001 x268001_2) ∧ Aside0 (w'.heap[gb241]? = some (.cells #[(.slice (some ad249) l0_0.length c0_0), (.slice A0_1 l0_1.length c0_1)] 25 (0, 0))) ∧ Aside0 (w'.heap[gb242]? = some (.cells #[(.slice (some ad248) l1_0.length c1_0), (.slice A1_1 l1_1.length c1_1)] 25 (0, 0))) ∧ Aside0 (w'.heap[gb243]? = some (.cells #[(.slice none 0 0), (.slice none 0 0)] 25 (0, 0))) ∧ Aside0 (w'.heap[gb267]? = some (.cells #[(.slice Ao64 t260.length co64), u268001] 25 (0, 0))) ∧ Aside0 (Below w.heap.size w w'))
   case atStart => exact ⟨(0), (t263), (.slice Ao69 t263.length co69), z1_, H', ⟨Nat.le_refl _⟩, ⟨zr_ (Kd.R_mono (Kd.R_far (p := ⟨gb267, 1, none⟩) (Kd.R_far (p := ⟨gb267, 0, none⟩) (Kd.R_types HO262.out BK267.out (by decide)) (fun _ hk => hk.2) (.slice Ao64 t260.length co64)) (fun _ hk => hk.2) (.slice Ao69 t263.length co69)) (fun _ hk => trivial))⟩, ⟨zr_ (Kd.R_mono (Kd.R_far (p := ⟨gb267, 1, none⟩) (Kd.R_far (p := ⟨gb267, 0, none⟩) (Kd.R_types HO265.out BK267.out (by decide)) (fun _ hk => hk.2) (.slice Ao64 t260.length co64)) (fun _ hk => hk.2) (.slice Ao69 t263.length co69)) (fun _ hk => trivial))⟩, ⟨zv1_ BK241 NB241_267⟩, ⟨zv1_ BK242 NB242_267⟩, ⟨zv1_ BK243 NB243_267⟩, ⟨zo2_ BK267⟩, ⟨zw4_ HB GE241 GE242 GE243 GE267⟩⟩
   case round =>
    clear H'
    try clear c1
    try clear c2
    try clear p2
    try clear q2
    try clear hx2
    try clear qi2
    try clear c6
    try clear p24
    try clear q24
    try clear hx24
    try clear qi24
    try clear p25
    try clear q25
    try clear hx25
    try clear qi25
    try clear c28
    try clear c29
    try clear c65
    try clear c66
    try clear c67
    try clear hcz68_0
    try clear hcz68_1
    try clear hfz68_0
    try clear hfz68_1
    try clear hx248_0
    try clear hx249_0
    try clear hx250_0
    try clear hx252_0
    try clear hx253_0
    try clear hx254_0
    try clear hx255_0
    try clear hx256_0
    try clear p248
    try clear p249
    try clear p250
    try clear p252
    try clear p253
    try clear p254
    try clear p255
    try clear p256
    try clear q248
    try clear q249
    try clear q250
    try clear q252
    try clear q253
    try clear q254
    try clear q255
    try clear q256
    obtain ⟨x110_2, x268001_2, u268001, rfl, HA, HK2, HO_268000, HO_268001, BK241, BK242, BK243, BK267, HB⟩ := hrel
    cases gk with
    | zero => exact absurd HA.out (by simp [conv_BackIn.l0])
    | succ k2 =>
     have H := HA.out
     clear HA
     simp only [conv_BackIn.l0] at H
     by_cases c70 : x110_2 < (t263.length : Int)
     rotate_left
     ·rw [if_neg c70] at H
      have c70b0 : decide (x110_2 < (t263.length : Int)) = false := decide_eq_false c70
      clear c70
      simp only [Option.some.injEq, Prod.mk.injEq] at H
      obtain ⟨rfl, rfl, rfl⟩ := H
      have hnb107 := NB267_241.out
      have hnc107 := NB241_267.out
      have hnb108 := NB267_242.out
      have hnc108 := NB242_267.out
      have hnb109 := NB267_243.out
      have hnc109 := NB243_267.out
      have hcz110_0 := zx_ (v := .slice Ao64 t260.length co64) BK267 0
      have hcz110_1 := zx_ (v := u268001) BK267 1
      have hfz110_0 := blk_frozen BK267.out 0
      have hfz110_1 := blk_frozen BK267.out 1
      have hnb111 := NB243_241.out
      have hnc111 := NB241_243.out
      have hnb112 := NB243_242.out
      have hnc112 := NB242_243.out
      have hcz113_0 := zx_ (v := .slice none 0 0) BK243 0
      have hcz113_1 := zx_ (v := .slice none 0 0) BK243 1
      have hfz113_0 := blk_frozen BK243.out 0
      have hfz113_1 := blk_frozen BK243.out 1
      obtain ⟨Ao114, co114, eo114⟩ := Kd.R_slice HO_268001.out
      subst eo114
      go_wp2
      refine bodyPost_ret (results_ct rfl _ _ gb243 25 #[.slice Ao64 t260.length co64, .slice Ao114 x268001_2.length co114] (0, 0) _ rfl (zo2_ BK243) Try.underlying25 rfl (by kernel_rfl)) rfl ?_
      exact ⟨_, _, z0_, zr_ (Kd.R_mono (Kd.R_far (p := ⟨gb243, 1, none⟩) (Kd.R_far (p := ⟨gb243, 0, none⟩) (Kd.R_types HO_268000.out BK243.out (by decide)) (fun _ hk => hk.2) (.slice Ao64 t260.length co64)) (fun _ hk => hk.2) (.slice Ao114 x268001_2.length co114)) (fun _ hk => trivial)), zr_ (Kd.R_mono (Kd.R_far (p := ⟨gb243, 1, none⟩) (Kd.R_far (p := ⟨gb243, 0, none⟩) (Kd.R_types HO_268001.out BK243.out (by decide)) (fun _ hk => hk.2) (.slice Ao64 t260.length co64)) (fun _ hk => hk.2) (.slice Ao114 x268001_2.length co114)) (fun _ hk => trivial)), zw4_ HB GE241 GE242 GE243 GE267⟩
     rw [if_pos c70] at H
     have c70b0 : decide (x110_2 < (t263.length : Int)) = true := decide_eq_true c70
     clear c70
     by_cases c71 : a3 = 0
     ·rw [if_pos c71] at H
      exact absurd H (by simp)
     rw [if_neg c71] at H
     have c71b0 : (a3 == 0) = false := beq_eq_false_iff_ne.mpr c71
     have c71b1 : (a3 != 0) = true := bne_iff_ne.mpr c71
     have H' := Aside0.mk H
     clear H
     try go_wp2
     replace HO_268000 := Aside0.mk (Kd.R_drew HO_268000.out)
     replace HO_268001 := Aside0.mk (Kd.R_drew HO_268001.out)
     replace BK241 := Aside0.mk (blk_drew BK241.out)
     replace BK242 := Aside0.mk (blk_drew BK242.out)
     replace BK243 := Aside0.mk (blk_drew BK243.out)
     replace BK267 := Aside0.mk (blk_drew BK267.out)
     replace HB := Aside0.mk (below_drew1 HB.out)
     refine start_ (n := 8) (S := fun w' => True) (ds := []) #[false, false, false, false, false, false, false, false] (by kernel_rfl) rfl rfl trivial (fun hHeld => ?_); refine with_tabW conv_BackIn.tab12 conv_BackIn.bits12 (fun HT_ HW_ => ?_)
     generalize wr.drew = w72 at HO_268000 HO_268001 BK241 BK242 BK243 BK267 HB hHeld ⊢
     refine yp_ ?_ 0 113
     refine yp_ ?_ 1 114
     refine yp_ ?_ 2 115
     refine yp_ ?_ 3 116
     refine yp_ ?_ 4 117
     refine yp_ ?_ 5 118
     refine yp_ ?_ 6 17
     refine yp_ ?_ 7 18
     refine done_ (done_of HT_.out (by kernel_rfl)) ?_
     try go_wp2_with (first | ((with_reducible refine gate_dst (N := 19) rfl ?_); (try (refine gate_guard (by rfl) ?_; dsimp only)); refine box_event ?hg (N := 19) ?hd (cs := #[.int .i64 0, .int .i64 0, .int .u64 0]) (t := 54) ?hr ?_; (case hd => rfl); (case hg => rfl); (case hr => first | (go_simp; done) | (go_simp; rfl)); intro gb268 hg w73 hbox hb; replace HO_268000 := zy_ HO_268000 hb; replace HO_268001 := zy_ HO_268001 hb; have BK268 := Aside0.mk (hbox); have GW268 := Aside0.mk (zs_ hg (zw4_ HB GE241 GE242 GE243 GE267)); have GE268 := Aside0.mk (zs_ hg (zw4_ HB GE241 GE242 GE243 GE267)); replace HB := Aside0.mk (below_step (zw4_ HB GE241 GE242 GE243 GE267) hb); have NB241_268 := Aside0.mk (zn_ hg BK241); have NB268_241 := Aside0.mk (zm_ hg BK241); replace BK241 := za_ BK241 hb; have NB242_268 := Aside0.mk (zn_ hg BK242); have NB268_242 := Aside0.mk (zm_ hg BK242); replace BK242 := za_ BK242 hb; have NB243_268 := Aside0.mk (zn_ hg BK243); have NB268_243 := Aside0.mk (zm_ hg BK243); replace BK243 := za_ BK243 hb; have NB267_268 := Aside0.mk (zn_ hg BK267); have NB268_267 := Aside0.mk (zm_ hg BK267); replace BK267 := za_ BK267 hb; clear hb hbox hg))
     go_loopg [120] k2 (fun kq v120 w' => ∃ (x120_3 : Int) (x269000_3 : Int) (x269001_3 : Int) (x269002_3 : Int), v120 = .int .i64 x120_3 ∧ Aside0 (conv_BackIn.l1 kq a2 a3 (rd l1_0 0) (rd l1_0 1) (rd l1_0 2) (rd l0_0 1) x110_2 (wrap64 (Int.tdiv x110_2 a3)) (Int.tmod x110_2 a3) (t263.length : Int) x110_2 (rd l1_0 0) x120_3 l0_0 l0_1 l1_0 l1_1 t260 x268001_2 x269000_3 x269001_3 x269002_3 = some (r1, r2, r3)) ∧ Aside0 (kq ≤ k2) ∧ Aside0 (Kd.R (Kd.int .i64) 3 w' w.heap.size (fun _ => True) (.slice Ao64 t260.length co64) t260) ∧ Aside0 (Kd.R (Kd.int .i64) 33 w' w.heap.size (fun _ => True) u268001 x268001_2) ∧ Aside0 (w'.heap[gb241]? = some (.cells #[(.slice (some ad249) l0_0.length c0_0), (.slice A0_1 l0_1.length c0_1)] 25 (0, 0))) ∧ Aside0 (w'.heap[gb242]? = some (.cells #[(.slice (some ad248) l1_0.length c1_0), (.slice A1_1 l1_1.length c1_1)] 25 (0, 0))) ∧ Aside0 (w'.heap[gb243]? = some (.cells #[(.slice none 0 0), (.slice none 0 0)] 25 (0, 0))) ∧ Aside0 (w'.heap[gb267]? = some (.cells #[(.slice Ao64 t260.length co64), u268001] 25 (0, 0))) ∧ Aside0 (w'.heap[gb268]? = some (.cells #[.int .i64 x269000_3, .int .i64 x269001_3, .int .u64 x269002_3] 54 (0, 0))) ∧ Aside0 (Below w.heap.size w w'))
     case atStart => exact ⟨(0), (0), (0), (0), z1_, H', ⟨Nat.le_refl _⟩, ⟨zr_ HO_268000.out⟩, ⟨zr_ HO_268001.out⟩, ⟨zb_ BK241⟩, ⟨zb_ BK242⟩, ⟨zb_ BK243⟩, ⟨zb_ BK267⟩, ⟨zb_ BK268⟩, ⟨zw5_ HB GE241 GE242 GE243 GE267 GE268⟩⟩
     case round =>
      clear H'
      try clear c1
      try clear c2
      try clear p2
      try clear q2
      try clear hx2
      try clear qi2
      try clear c6
      try clear p6
      try clear c7
      try clear p24
      try clear q24
      try clear hx24
      try clear qi24
      try clear p25
      try clear q25
      try clear hx25
      try clear qi25
      try clear c28
      try clear c29
      try clear p64
      try clear c65
      try clear c66
      try clear c67
      try clear c70
      try clear c70b0
      try clear c71
      try clear c71b0
      try clear c71b1
      try clear hcz68_0
      try clear hcz68_1
      try clear hfz68_0
      try clear hfz68_1
      try clear hx248_0
      try clear hx249_0
      try clear hx250_0
      try clear hx252_0
      try clear hx253_0
      try clear hx254_0
      try clear hx255_0
      try clear hx256_0
      try clear p2
      try clear p24
      try clear p248
      try clear p249
      try clear p25
      try clear p250
      try clear p252
      try clear p253
      try clear p254
      try clear p255
      try clear p256
      try clear q2
      try clear q24
      try clear q248
      try clear q249
      try clear q25
      try clear q250
      try clear q252
      try clear q253
      try clear q254
      try clear q255
      try clear q256
      obtain ⟨x120_3, x269000_3, x269001_3, x269002_3, rfl, HA, HK3, HO_268000, HO_268001, BK241, BK242, BK243, BK267, BK268, HB⟩ := hrel
      cases gk with
      | zero => exact absurd HA.out (by simp [conv_BackIn.l1])
      | succ k3 =>
       have H := HA.out
       clear HA
       simp only [conv_BackIn.l1] at H
       by_cases c74 : x120_3 < (rd l1_0 0)
       rotate_left
       ·rw [if_neg c74] at H
        have c74b0 : decide (x120_3 < (rd l1_0 0)) = false := decide_eq_false c74
        clear c74
        replace H := Option.bind_eq_some_iff.mp H
        obtain ⟨t269, A950, H⟩ := H
        (try dsimp only at H)
        have A95 := Aside0.mk A950
        clear A950
        by_cases c96 : 0 ≤ x110_2
        rotate_left
        ·rw [if_neg c96] at H
         exact absurd H (by simp)
        rw [if_pos c96] at H
        have c96b0 : decide (0 ≤ x110_2) = true := decide_eq_true c96
        clear c96
        by_cases c97 : x110_2 < (x268001_2.length : Int)
        rotate_left
        ·rw [if_neg c97] at H
         exact absurd H (by simp)
        rw [if_pos c97] at H
        have c97b0 : decide (x110_2 < (x268001_2.length : Int)) = true := decide_eq_true c97
        clear c97
        obtain ⟨y270, hy270⟩ : ∃ y_ : List Int, y_ = (x268001_2.set (x110_2 : Int).toNat t269) := ⟨_, rfl⟩
        replace H : (conv_BackIn.l0 k3 a2 a3 (rd l1_0 0) (rd l1_0 1) (rd l1_0 2) (rd l0_0 1) (t263.length : Int) (wrap64 (x110_2 + 1)) l0_0 l0_1 l1_0 l1_1 t260 y270) = some (r1, r2, r3) := by first | (rw [hy270]; with_reducible exact H) | (have H2_ := (Option.bind_some _ _).symm.trans H; rw [hy270]; with_reducible exact H2_) | (have H2_ := (Option.bind_some _ _).symm.trans H; with_reducible exact H2_) | with_reducible exact H | (rw [hy270]; exact H) | exact H
        have Ny270 := Aside0.mk hy270
        clear hy270
        have H' := Aside0.mk H
        clear H
        have hnb99 := NB268_241.out
        have hnc99 := NB241_268.out
        have hnb100 := NB268_242.out
        have hnc100 := NB242_268.out
        have hnb101 := NB268_243.out
        have hnc101 := NB243_268.out
        have hnb102 := NB268_267.out
        have hnc102 := NB267_268.out
        have hcz103_0 := zx_ (v := .int .i64 x269000_3) BK268 0
        have hcz103_1 := zx_ (v := .int .i64 x269001_3) BK268 1
        have hcz103_2 := zx_ (v := .int .u64 x269002_3) BK268 2
        have hfz103_0 := blk_frozen BK268.out 0
        have hfz103_1 := blk_frozen BK268.out 1
        have hfz103_2 := blk_frozen BK268.out 2
        try go_wp2
        replace HO_268000 := Aside0.mk (Kd.R_drew HO_268000.out)
        replace HO_268001 := Aside0.mk (Kd.R_drew HO_268001.out)
        replace BK241 := Aside0.mk (blk_drew BK241.out)
        replace BK242 := Aside0.mk (blk_drew BK242.out)
        replace BK243 := Aside0.mk (blk_drew BK243.out)
        replace BK267 := Aside0.mk (blk_drew BK267.out)
        replace BK268 := Aside0.mk (blk_drew BK268.out)
        replace HB := Aside0.mk (below_drew1 HB.out)
        refine start_ (n := 6) (S := fun w' => w'.cell? ⟨gb267, 0, none⟩ = some (.slice Ao64 t260.length co64) ∧ w'.cell? ⟨gb267, 1, none⟩ = some (u268001)) (ds := [5]) #[false, false, false, false, false, false] (by kernel_rfl) rfl rfl ⟨(blk_cell BK267.out 0).trans rfl, (blk_cell BK267.out 1).trans rfl⟩ (fun hHeld => ?_)
        generalize wr.drew = w104 at HO_268000 HO_268001 BK241 BK242 BK243 BK267 BK268 HB hHeld ⊢
        refine pure_ (i := 0) (N := some 171) (v := ?_) (a' := ?_) #[true, false, false, false, false, false] rfl rfl (by kernel_rfl) (fun _ _ _ h => h) (Or.inl ⟨by rfl, ?_⟩) ?_ ?_
        rotate_left
        ·intro w'
         go_simp
         with_reducible rfl
        rotate_left
        ·simp only [Act.put, List.setIfInBounds_toArray, List.set_cons_zero, List.set_cons_succ, i64_w, i32_w]
         rfl
        refine pure_ (i := 2) (N := some 173) (v := ?_) (a' := ?_) #[true, false, true, false, false, false] rfl rfl (by kernel_rfl) (fun _ _ _ h => h) (Or.inl ⟨by rfl, ?_⟩) ?_ ?_
        rotate_left
        ·intro w'
         go_simp
         with_reducible rfl
        rotate_left
        ·simp only [Act.put, List.setIfInBounds_toArray, List.set_cons_zero, List.set_cons_succ, i64_w, i32_w]
         rfl
        refine take_ (i := 1) (N := some 172) (v := ?_) (a' := ?_) #[true, true, true, false, false, false] rfl rfl (by kernel_rfl) (fun _ _ _ h => h) (Or.inl ⟨by rfl, ?_⟩) hHeld ?_ ?_
        rotate_left
        ·rintro w' ⟨s0, s1⟩
         go_simp
         with_reducible rfl
        rotate_left
        ·simp only [Act.put, List.setIfInBounds_toArray, List.set_cons_zero, List.set_cons_succ, i64_w, i32_w]
         rfl
        refine one_ (i := 3) (N := some 174) #[true, true, true, true, false, false] rfl rfl (by kernel_rfl) (by decide) (fun K hK => ?_)
        refine yg_ Try.func31 #[.pointer (some ⟨gb268, 0, none⟩), .int .i64 32] ?_
        with_reducible refine (wide_Acc_Fix.calls k3 gb268 x269000_3 x269001_3 x269002_3 32 t269 _ (zb_ BK268) A95.out).mono ?_
        rintro e w105 ⟨rfl, hb⟩
        refine ⟨_, rfl, ?_⟩
        replace HO_268000 := zy_ HO_268000 hb
        replace HO_268001 := zy_ HO_268001 hb
        replace BK241 := za_ BK241 hb
        replace BK242 := za_ BK242 hb
        replace BK243 := za_ BK243 hb
        replace BK267 := za_ BK267 hb
        replace BK268 := za_ BK268 hb
        replace HB := Aside0.mk (below_step (zw5_ HB GE241 GE242 GE243 GE267 GE268) hb)
        (try clear hb)
        (try clear hb2)
        (try clear hk)
        (try clear hi)
        have p98 : 0 ≤ (x110_2 : Int) := of_decide_eq_true (by first | (with_reducible assumption) | assumption)
        have q98 : (x110_2 : Int) < ((x268001_2.length : Int) : Int) := of_decide_eq_true (by first | (with_reducible assumption) | assumption)
        obtain ⟨go98, co98, eo98, gb98, gl98, cl98, HG98⟩ := Kd.R_form HO_268001.out (by omega)
        (first | cases eo98 | (injection eo98 with ea_ en_ ec_; (first | subst ea_ | (injection ea_ with ea_; subst ea_)); subst ec_; clear en_))
        have GB98 := Aside0.mk gb98
        have GG98 := Aside0.mk HG98
        clear gb98 gl98 HG98
        obtain ⟨hx98_0, hf98_0⟩ := Kd.R_celln 0 HO_268001.out (x110_2 : Int) p98 q98
        replace p98 := eq_true p98
        replace q98 := eq_true q98
        have HP106 := Kd.R_putn HO_268001.out (x110_2 : Int) t269
        rw [← Ny270.out] at HP106
        have HQ106 := Aside0.mk HP106
        clear HP106
        refine hK.out _ _ ⟨zx_ BK267 0, zx_ BK267 1⟩ (fun hHeld => ?_)
        clear hK K
        refine zq_ (some 174) (h := ?_)
        refine pure_ (i := 4) (N := some 175) (v := ?_) (a' := ?_) #[true, true, true, true, true, false] rfl rfl (by kernel_rfl) (fun _ _ _ h => h) (Or.inl ⟨by rfl, ?_⟩) ?_ ?_
        rotate_left
        ·intro w'
         go_simp
         with_reducible rfl
        rotate_left
        ·simp only [Act.put, List.setIfInBounds_toArray, List.set_cons_zero, List.set_cons_succ, i64_w, i32_w]
         rfl
        refine last_ (i := 5) (N := none) #[true, true, true, true, true, true] rfl rfl (by kernel_rfl) (by decide) (fun K hK => ?_)
        refine skip_ (w1 := ?_) (by rfl) rfl ?_ ?_
        rotate_left
        ·go_simp
         rfl
        refine hK.out _ _ ?_
        clear hK K
        refine done_ (by kernel_rfl) ?_
        try go_wp2
        go_roundg k3
        case measure => have := HJ4.out; have := HK2.out; have := HK3.out; omega
        case rel => exact ⟨(wrap64 (x110_2 + 1)), (y270), (.slice (some ⟨go98, 0, none⟩) x268001_2.length co98), z1_, H', ⟨by have := HJ4.out; have := HK2.out; have := HK3.out; omega⟩, ⟨zr_ (Kd.R_mono (Kd.R_far (p := ⟨go98, (x110_2 : Int).toNat, none⟩) (Kd.R_types HO_268000.out GG98.out (by decide)) (fun _ hk => hk.2) (.int .i64 t269)) (fun _ hk => trivial))⟩, ⟨zr_ HQ106.out⟩, ⟨by (with_reducible repeat (first | refine blk_drewN ?_ _ | refine blk_drew ?_ | refine blk_alloc ?_ _)); refine blk_far ?_ (by have h_ := Kd.R_ne HO_268001.out BK241.out (by decide); intro e_; exact h_ (by rw [e_]; rfl)) _; (with_reducible repeat (first | refine blk_drewN ?_ _ | refine blk_drew ?_ | refine blk_alloc ?_ _)); exact BK241.out⟩, ⟨by (with_reducible repeat (first | refine blk_drewN ?_ _ | refine blk_drew ?_ | refine blk_alloc ?_ _)); refine blk_far ?_ (by have h_ := Kd.R_ne HO_268001.out BK242.out (by decide); intro e_; exact h_ (by rw [e_]; rfl)) _; (with_reducible repeat (first | refine blk_drewN ?_ _ | refine blk_drew ?_ | refine blk_alloc ?_ _)); exact BK242.out⟩, ⟨by (with_reducible repeat (first | refine blk_drewN ?_ _ | refine blk_drew ?_ | refine blk_alloc ?_ _)); refine blk_far ?_ (by have h_ := Kd.R_ne HO_268001.out BK243.out (by decide); intro e_; exact h_ (by rw [e_]; rfl)) _; (with_reducible repeat (first | refine blk_drewN ?_ _ | refine blk_drew ?_ | refine blk_alloc ?_ _)); exact BK243.out⟩, ⟨by (with_reducible repeat (first | refine blk_drewN ?_ _ | refine blk_drew ?_ | refine blk_alloc ?_ _)); refine blk_far ?_ (by have h_ := Kd.R_ne HO_268001.out BK267.out (by decide); intro e_; exact h_ (by rw [e_]; rfl)) _; (with_reducible repeat (first | refine blk_drewN ?_ _ | refine blk_drew ?_ | refine blk_alloc ?_ _)); exact BK267.out⟩, ⟨by repeat (first | (with_reducible first | exact HB.out | apply below_alloc | apply pw_below_drewN | apply below_drew1 | refine below_set ?_ GB98.out | refine below_set ?_ GE241.out | refine below_set ?_ GE242.out | refine below_set ?_ GE243.out | refine below_set ?_ GE267.out | refine below_set ?_ GE268.out) | exact HB.out)⟩⟩
       rw [if_pos c74] at H
       have c74b0 : decide (x120_3 < (rd l1_0 0)) = true := decide_eq_true c74
       clear c74
       obtain ⟨ji75, hji75⟩ : ∃ j_ : Int, (mn (rd l1_0 2) (wrap64 ((Int.tmod x110_2 a3) + 1))) = j_ := ⟨_, rfl⟩
       replace H : (conv_BackIn.l2 k3 a2 a3 (rd l1_0 0) (rd l1_0 1) (rd l1_0 2) (rd l0_0 1) x110_2 (wrap64 (Int.tdiv x110_2 a3)) (Int.tmod x110_2 a3) x120_3 (t263.length : Int) x110_2 (rd l1_0 0) x120_3 ji75 0 l0_0 l0_1 l1_0 l1_1 t260 x268001_2 x269000_3 x269001_3 x269002_3) = some (r1, r2, r3) := by first | (rw [hji75] at H; exact H) | (simp only [hji75] at H ⊢; exact H)
       have hji75_ : (if (wrap64 ((Int.tmod x110_2 a3) + 1)) < (rd l1_0 2) then (wrap64 ((Int.tmod x110_2 a3) + 1)) else (rd l1_0 2)) = ji75 := hji75
       have H' := Aside0.mk H
       clear H
       go_wp2
       go_loopg [127] k3 (fun kq v127 w' => ∃ (x127_4 : Int) (x269000_4 : Int) (x269001_4 : Int) (x269002_4 : Int), v127 = .int .i64 x127_4 ∧ Aside0 (conv_BackIn.l2 kq a2 a3 (rd l1_0 0) (rd l1_0 1) (rd l1_0 2) (rd l0_0 1) x110_2 (wrap64 (Int.tdiv x110_2 a3)) (Int.tmod x110_2 a3) x120_3 (t263.length : Int) x110_2 (rd l1_0 0) x120_3 ji75 x127_4 l0_0 l0_1 l1_0 l1_1 t260 x268001_2 x269000_4 x269001_4 x269002_4 = some (r1, r2, r3)) ∧ Aside0 (kq ≤ k3) ∧ Aside0 (Kd.R (Kd.int .i64) 3 w' w.heap.size (fun _ => True) (.slice Ao64 t260.length co64) t260) ∧ Aside0 (Kd.R (Kd.int .i64) 33 w' w.heap.size (fun _ => True) u268001 x268001_2) ∧ Aside0 (w'.heap[gb241]? = some (.cells #[(.slice (some ad249) l0_0.length c0_0), (.slice A0_1 l0_1.length c0_1)] 25 (0, 0))) ∧ Aside0 (w'.heap[gb242]? = some (.cells #[(.slice (some ad248) l1_0.length c1_0), (.slice A1_1 l1_1.length c1_1)] 25 (0, 0))) ∧ Aside0 (w'.heap[gb243]? = some (.cells #[(.slice none 0 0), (.slice none 0 0)] 25 (0, 0))) ∧ Aside0 (w'.heap[gb267]? = some (.cells #[(.slice Ao64 t260.length co64), u268001] 25 (0, 0))) ∧ Aside0 (w'.heap[gb268]? = some (.cells #[.int .i64 x269000_4, .int .i64 x269001_4, .int .u64 x269002_4] 54 (0, 0))) ∧ Aside0 (Below w.heap.size w w'))
       case atStart => exact ⟨(0), (x269000_3), (x269001_3), (x269002_3), z1_, H', ⟨Nat.le_refl _⟩, ⟨zr_ HO_268000.out⟩, ⟨zr_ HO_268001.out⟩, ⟨zb_ BK241⟩, ⟨zb_ BK242⟩, ⟨zb_ BK243⟩, ⟨zb_ BK267⟩, ⟨zb_ BK268⟩, ⟨zw5_ HB GE241 GE242 GE243 GE267 GE268⟩⟩
       case round =>
        clear H'
        try clear c1
        try clear c2
        try clear p2
        try clear q2
        try clear hx2
        try clear qi2
        try clear c6
        try clear p6
        try clear c7
        try clear p24
        try clear q24
        try clear hx24
        try clear qi24
        try clear p25
        try clear q25
        try clear hx25
        try clear qi25
        try clear c28
        try clear c29
        try clear p64
        try clear c65
        try clear c66
        try clear c67
        try clear c70
        try clear c70b0
        try clear c71
        try clear c71b0
        try clear c71b1
        try clear c74
        try clear c74b0
        try clear hcz68_0
        try clear hcz68_1
        try clear hfz68_0
        try clear hfz68_1
        try clear hx248_0
        try clear hx249_0
        try clear hx250_0
        try clear hx252_0
        try clear hx253_0
        try clear hx254_0
        try clear hx255_0
        try clear hx256_0
        try clear p2
        try clear p24
        try clear p248
        try clear p249
        try clear p25
        try clear p250
        try clear p252
        try clear p253
        try clear p254
        try clear p255
        try clear p256
        try clear p6
        try clear p64
        try clear q2
        try clear q24
        try clear q248
        try clear q249
        try clear q25
        try clear q250
        try clear q252
        try clear q253
        try clear q254
        try clear q255
        try clear q256
        obtain ⟨x127_4, x269000_4, x269001_4, x269002_4, rfl, HA, HK4, HO_268000, HO_268001, BK241, BK242, BK243, BK267, BK268, HB⟩ := hrel
        cases gk with
        | zero => exact absurd HA.out (by simp [conv_BackIn.l2])
        | succ k4 =>
         have H := HA.out
         clear HA
         simp only [conv_BackIn.l2] at H
         by_cases c76 : x127_4 < ji75
         rotate_left
         ·rw [if_neg c76] at H
          have c76b0 : decide (x127_4 < ji75) = false := decide_eq_false c76
          clear c76
          have H' := Aside0.mk H
          clear H
          go_wp2
          go_roundg k4
          case measure => have := HJ4.out; have := HK2.out; have := HK3.out; have := HK4.out; omega
          case rel => exact ⟨(wrap64 (x120_3 + 1)), (x269000_4), (x269001_4), (x269002_4), z1_, H', ⟨by have := HJ4.out; have := HK2.out; have := HK3.out; have := HK4.out; omega⟩, ⟨zr_ HO_268000.out⟩, ⟨zr_ HO_268001.out⟩, ⟨zb_ BK241⟩, ⟨zb_ BK242⟩, ⟨zb_ BK243⟩, ⟨zb_ BK267⟩, ⟨zb_ BK268⟩, ⟨zw5_ HB GE241 GE242 GE243 GE267 GE268⟩⟩
         rw [if_pos c76] at H
         have c76b0 : decide (x127_4 < ji75) = true := decide_eq_true c76
         clear c76
         by_cases c77 : a2 = 0
         ·rw [if_pos c77] at H
          exact absurd H (by simp)
         rw [if_neg c77] at H
         have c77b0 : (a2 == 0) = false := beq_eq_false_iff_ne.mpr c77
         have c77b1 : (a2 != 0) = true := bne_iff_ne.mpr c77
         by_cases c78 : (Int.tmod (wrap64 ((Int.tmod x110_2 a3) - x127_4)) a2) = 0
         rotate_left
         ·rw [if_neg c78] at H
          have c78b0 : ((Int.tmod (wrap64 ((Int.tmod x110_2 a3) - x127_4)) a2) == 0) = false := beq_eq_false_iff_ne.mpr c78
          have c78b1 : ((Int.tmod (wrap64 ((Int.tmod x110_2 a3) - x127_4)) a2) != 0) = true := bne_iff_ne.mpr c78
          have H' := Aside0.mk H
          clear H
          go_wp2
          go_roundg k4
          case measure => have := HJ4.out; have := HK2.out; have := HK3.out; have := HK4.out; omega
          case rel => exact ⟨(wrap64 (x127_4 + 1)), (x269000_4), (x269001_4), (x269002_4), z1_, H', ⟨by have := HJ4.out; have := HK2.out; have := HK3.out; have := HK4.out; omega⟩, ⟨zr_ HO_268000.out⟩, ⟨zr_ HO_268001.out⟩, ⟨zb_ BK241⟩, ⟨zb_ BK242⟩, ⟨zb_ BK243⟩, ⟨zb_ BK267⟩, ⟨zb_ BK268⟩, ⟨zw5_ HB GE241 GE242 GE243 GE267 GE268⟩⟩
         rw [if_pos c78] at H
         have c78b0 : ((Int.tmod (wrap64 ((Int.tmod x110_2 a3) - x127_4)) a2) == 0) = true := beq_iff_eq.mpr c78
         have c78b1 : ((Int.tmod (wrap64 ((Int.tmod x110_2 a3) - x127_4)) a2) != 0) = false := bne_eq_false_iff_eq.mpr c78
         clear c78
         by_cases c79 : (wrap64 (Int.tdiv (wrap64 ((Int.tmod x110_2 a3) - x127_4)) a2)) < (rd l0_0 1)
         rotate_left
         ·rw [if_neg c79] at H
          have c79b0 : decide ((wrap64 (Int.tdiv (wrap64 ((Int.tmod x110_2 a3) - x127_4)) a2)) < (rd l0_0 1)) = false := decide_eq_false c79
          clear c79
          have H' := Aside0.mk H
          clear H
          go_wp2
          go_roundg k4
          case measure => have := HJ4.out; have := HK2.out; have := HK3.out; have := HK4.out; omega
          case rel => exact ⟨(wrap64 (x127_4 + 1)), (x269000_4), (x269001_4), (x269002_4), z1_, H', ⟨by have := HJ4.out; have := HK2.out; have := HK3.out; have := HK4.out; omega⟩, ⟨zr_ HO_268000.out⟩, ⟨zr_ HO_268001.out⟩, ⟨zb_ BK241⟩, ⟨zb_ BK242⟩, ⟨zb_ BK243⟩, ⟨zb_ BK267⟩, ⟨zb_ BK268⟩, ⟨zw5_ HB GE241 GE242 GE243 GE267 GE268⟩⟩
         rw [if_pos c79] at H
         have c79b0 : decide ((wrap64 (Int.tdiv (wrap64 ((Int.tmod x110_2 a3) - x127_4)) a2)) < (rd l0_0 1)) = true := decide_eq_true c79
         clear c79
         obtain ⟨ji80, hji80⟩ : ∃ j_ : Int, (wrap64 ((wrap64 (x120_3 * (rd l0_0 1))) + (wrap64 (Int.tdiv (wrap64 ((Int.tmod x110_2 a3) - x127_4)) a2)))) = j_ := ⟨_, rfl⟩
         replace H : (if 0 ≤ (ji80) then (if (ji80) < (l0_1.length : Int) then (if 0 ≤ (wrap64 ((wrap64 ((wrap64 ((wrap64 (x120_3 * (rd l1_0 1))) + (wrap64 (Int.tdiv x110_2 a3)))) * (rd l1_0 2))) + x127_4)) then (if (wrap64 ((wrap64 ((wrap64 ((wrap64 (x120_3 * (rd l1_0 1))) + (wrap64 (Int.tdiv x110_2 a3)))) * (rd l1_0 2))) + x127_4)) < (l1_1.length : Int) then ((wide_Acc_Plus.f x269000_4 x269001_4 x269002_4 (rd l0_1 (ji80)) (rd l1_1 (wrap64 ((wrap64 ((wrap64 ((wrap64 (x120_3 * (rd l1_0 1))) + (wrap64 (Int.tdiv x110_2 a3)))) * (rd l1_0 2))) + x127_4)))).bind fun bt273 => (conv_BackIn.l2 k4 a2 a3 (rd l1_0 0) (rd l1_0 1) (rd l1_0 2) (rd l0_0 1) x110_2 (wrap64 (Int.tdiv x110_2 a3)) (Int.tmod x110_2 a3) x120_3 (t263.length : Int) x110_2 (rd l1_0 0) x120_3 ji75 (wrap64 (x127_4 + 1)) l0_0 l0_1 l1_0 l1_1 t260 x268001_2 bt273.1 bt273.2.1 bt273.2.2)) else (none)) else (none)) else (none)) else (none)) = some (r1, r2, r3) := by first | (rw [hji80] at H; exact H) | (simp only [hji80] at H ⊢; exact H)
         have hji80w : (IntKind.i64.wrap ((wrap64 (x120_3 * (rd l0_0 1))) + (wrap64 (Int.tdiv (wrap64 ((Int.tmod x110_2 a3) - x127_4)) a2)))) = ji80 := (i64_w _).trans hji80
         by_cases c81 : 0 ≤ (ji80)
         rotate_left
         ·rw [if_neg c81] at H
          exact absurd H (by simp)
         rw [if_pos c81] at H
         have c81b0 : decide (0 ≤ (ji80)) = true := decide_eq_true c81
         clear c81
         by_cases c82 : (ji80) < (l0_1.length : Int)
         rotate_left
         ·rw [if_neg c82] at H
          exact absurd H (by simp)
         rw [if_pos c82] at H
         have c82b0 : decide ((ji80) < (l0_1.length : Int)) = true := decide_eq_true c82
         clear c82
         obtain ⟨ji83, hji83⟩ : ∃ j_ : Int, (wrap64 ((wrap64 ((wrap64 ((wrap64 (x120_3 * (rd l1_0 1))) + (wrap64 (Int.tdiv x110_2 a3)))) * (rd l1_0 2))) + x127_4)) = j_ := ⟨_, rfl⟩
         replace H : (if 0 ≤ (ji83) then (if (ji83) < (l1_1.length : Int) then ((wide_Acc_Plus.f x269000_4 x269001_4 x269002_4 (rd l0_1 (ji80)) (rd l1_1 (ji83))).bind fun bt273 => (conv_BackIn.l2 k4 a2 a3 (rd l1_0 0) (rd l1_0 1) (rd l1_0 2) (rd l0_0 1) x110_2 (wrap64 (Int.tdiv x110_2 a3)) (Int.tmod x110_2 a3) x120_3 (t263.length : Int) x110_2 (rd l1_0 0) x120_3 ji75 (wrap64 (x127_4 + 1)) l0_0 l0_1 l1_0 l1_1 t260 x268001_2 bt273.1 bt273.2.1 bt273.2.2)) else (none)) else (none)) = some (r1, r2, r3) := by first | (rw [hji83] at H; exact H) | (simp only [hji83] at H ⊢; exact H)
         have hji83w : (IntKind.i64.wrap ((wrap64 ((wrap64 ((wrap64 (x120_3 * (rd l1_0 1))) + (wrap64 (Int.tdiv x110_2 a3)))) * (rd l1_0 2))) + x127_4)) = ji83 := (i64_w _).trans hji83
         by_cases c84 : 0 ≤ (ji83)
         rotate_left
         ·rw [if_neg c84] at H
          exact absurd H (by simp)
         rw [if_pos c84] at H
         have c84b0 : decide (0 ≤ (ji83)) = true := decide_eq_true c84
         clear c84
         by_cases c85 : (ji83) < (l1_1.length : Int)
         rotate_left
         ·rw [if_neg c85] at H
          exact absurd H (by simp)
         rw [if_pos c85] at H
         have c85b0 : decide ((ji83) < (l1_1.length : Int)) = true := decide_eq_true c85
         clear c85
         replace H := Option.bind_eq_some_iff.mp H
         obtain ⟨⟨t273, t274, t275⟩, A860, H⟩ := H
         (try dsimp only at H)
         have A86 := Aside0.mk A860
         clear A860
         have H' := Aside0.mk H
         clear H
         have hnb87 := NB268_241.out
         have hnc87 := NB241_268.out
         have hnb88 := NB268_242.out
         have hnc88 := NB242_268.out
         have hnb89 := NB268_243.out
         have hnc89 := NB243_268.out
         have hnb90 := NB268_267.out
         have hnc90 := NB267_268.out
         have hcz91_0 := zx_ (v := .int .i64 x269000_4) BK268 0
         have hcz91_1 := zx_ (v := .int .i64 x269001_4) BK268 1
         have hcz91_2 := zx_ (v := .int .u64 x269002_4) BK268 2
         have hfz91_0 := blk_frozen BK268.out 0
         have hfz91_1 := blk_frozen BK268.out 1
         have hfz91_2 := blk_frozen BK268.out 2
         try go_wp2
         replace HO_268000 := Aside0.mk (Kd.R_drew HO_268000.out)
         replace HO_268001 := Aside0.mk (Kd.R_drew HO_268001.out)
         replace BK241 := Aside0.mk (blk_drew BK241.out)
         replace BK242 := Aside0.mk (blk_drew BK242.out)
         replace BK243 := Aside0.mk (blk_drew BK243.out)
         replace BK267 := Aside0.mk (blk_drew BK267.out)
         replace BK268 := Aside0.mk (blk_drew BK268.out)
         replace HB := Aside0.mk (below_drew1 HB.out)
         have p271 : 0 ≤ ((ji80) : Int) := of_decide_eq_true (by first | (with_reducible assumption) | assumption)
         have q271 : (ji80) < (l0_1.length : Int) := of_decide_eq_true (by first | (with_reducible assumption) | assumption)
         obtain ⟨ad271, e271, hx271_0⟩ := Kd.at_int HR0_1.out (ji80) p271 q271
         have hw271_0 := hx271_0
         cases e271
         replace hx271_0 := (HB.out.cell (World.block_lt_of_cell? w _ hx271_0)).trans hx271_0
         replace p271 := eq_true p271
         replace q271 := eq_true q271
         have p272 : 0 ≤ ((ji83) : Int) := of_decide_eq_true (by first | (with_reducible assumption) | assumption)
         have q272 : (ji83) < (l1_1.length : Int) := of_decide_eq_true (by first | (with_reducible assumption) | assumption)
         obtain ⟨ad272, e272, hx272_0⟩ := Kd.at_int HR1_1.out (ji83) p272 q272
         have hw272_0 := hx272_0
         cases e272
         replace hx272_0 := (HB.out.cell (World.block_lt_of_cell? w _ hx272_0)).trans hx272_0
         replace p272 := eq_true p272
         replace q272 := eq_true q272
         refine start_ (n := 23) (S := fun w' => w'.cell? ⟨gb241, 0, none⟩ = some (.slice (some ad249) l0_0.length c0_0) ∧ w'.cell? ⟨gb241, 1, none⟩ = some (.slice (some ad271) l0_1.length c0_1) ∧ w'.cell? ⟨gb242, 0, none⟩ = some (.slice (some ad248) l1_0.length c1_0) ∧ w'.cell? ⟨gb242, 1, none⟩ = some (.slice (some ad272) l1_1.length c1_1) ∧ w'.cell? (ad271.add ((ji80)).toNat) = some (.int .i64 (rd l0_1 (ji80))) ∧ w'.cell? (ad272.add ((ji83)).toNat) = some (.int .i64 (rd l1_1 (ji83)))) (ds := [22]) #[false, false, false, false, false, false, false, false, false, false, false, false, false, false, false, false, false, false, false, false, false, false, false] (by kernel_rfl) rfl rfl ⟨(blk_cell BK241.out 0).trans rfl, (blk_cell BK241.out 1).trans rfl, (blk_cell BK242.out 0).trans rfl, (blk_cell BK242.out 1).trans rfl, ((HB.out.cell (World.block_lt_of_cell? w _ hw271_0)).trans hw271_0), ((HB.out.cell (World.block_lt_of_cell? w _ hw272_0)).trans hw272_0)⟩ (fun hHeld => ?_); refine with_tabW conv_BackIn.tab22 conv_BackIn.bits22 (fun HT_ HW_ => ?_)
         generalize wr.drew = w92 at HO_268000 HO_268001 BK241 BK242 BK243 BK267 BK268 HB hx271_0 hx272_0 hHeld ⊢
         refine yp_ ?_ 0 146
         refine yp_ ?_ 2 148
         refine yp_ ?_ 3 149
         refine yp_ ?_ 4 150
         refine yp_ ?_ 5 151
         refine yp_ ?_ 6 152
         refine yp_ ?_ 9 155
         refine yp_ ?_ 11 157
         refine yp_ ?_ 12 158
         refine yp_ ?_ 13 159
         refine yp_ ?_ 14 160
         refine yp_ ?_ 15 161
         refine yp_ ?_ 16 162
         refine yp_ ?_ 17 163
         refine yp_ ?_ 18 164
         refine yp_ ?_ 19 165
         refine yt6_ ?_ 1 147
         refine yp_ ?_ 7 153
         refine yt6_ ?_ 8 154
         refine yt6_ ?_ 10 156
         refine yp_ ?_ 20 166
         refine yt6_ ?_ 21 167
         refine yl_ 22 (some 168) (fun K hK => ?_)
         refine goes_ Try.func30 (by kernel_rfl) rfl #[.pointer (some ⟨gb268, 0, none⟩), .int .i64 (rd l0_1 (ji80)), .int .i64 (rd l1_1 (ji83))] (by rfl) rfl rfl (by (try simp only [List.map_toArray, List.map_cons, List.map_nil]); first | done | (simp only [hji80, hji83]; rfl) | rfl | (simp only [List.length_drop, List.length_take]; rfl)) ?_
         with_reducible refine (wide_Acc_Plus.calls gb268 x269000_4 x269001_4 x269002_4 (rd l0_1 (ji80)) (rd l1_1 (ji83)) t273 t274 t275 _ (zb_ BK268) A86.out).mono ?_
         rintro e _ ⟨rfl, w93, hb, rfl⟩
         refine ⟨_, rfl, ?_⟩
         replace HO_268000 := zy_ HO_268000 hb
         replace HO_268001 := zy_ HO_268001 hb
         replace BK241 := za_ BK241 hb
         replace BK242 := za_ BK242 hb
         replace BK243 := za_ BK243 hb
         replace BK267 := za_ BK267 hb
         replace BK268 := za_ BK268 hb
         replace HB := Aside0.mk (below_step (zw5_ HB GE241 GE242 GE243 GE267 GE268) hb)
         (try clear hb)
         (try clear hb2)
         (try clear hk)
         (try clear hi)
         refine hK.out _ _ ?_
         clear hK K
         refine zq_ (some 168) (h := ?_)
         refine done_ (done_of HT_.out (by kernel_rfl)) ?_
         have hcz94_0 := zx_ (v := .int .i64 x269000_4) BK268 0
         have hcz94_1 := zx_ (v := .int .i64 x269001_4) BK268 1
         have hcz94_2 := zx_ (v := .int .u64 x269002_4) BK268 2
         have hfz94_0 := blk_frozen BK268.out 0
         have hfz94_1 := blk_frozen BK268.out 1
         have hfz94_2 := blk_frozen BK268.out 2
         try go_wp2
         go_roundg k4
         case measure => have := HJ4.out; have := HK2.out; have := HK3.out; have := HK4.out; omega
         case rel => exact ⟨(wrap64 (x127_4 + 1)), (t273), (t274), (t275), z1_, H', ⟨by have := HJ4.out; have := HK2.out; have := HK3.out; have := HK4.out; omega⟩, ⟨zr_ (Kd.R_mono (Kd.R_far (p := ⟨gb268, 2, none⟩) (Kd.R_far (p := ⟨gb268, 1, none⟩) (Kd.R_far (p := ⟨gb268, 0, none⟩) (Kd.R_types HO_268000.out BK268.out (by decide)) (fun _ hk => hk.2) (.int .i64 t273)) (fun _ hk => hk.2) (.int .i64 t274)) (fun _ hk => hk.2) (.int .u64 t275)) (fun _ hk => trivial))⟩, ⟨zr_ (Kd.R_mono (Kd.R_far (p := ⟨gb268, 2, none⟩) (Kd.R_far (p := ⟨gb268, 1, none⟩) (Kd.R_far (p := ⟨gb268, 0, none⟩) (Kd.R_types HO_268001.out BK268.out (by decide)) (fun _ hk => hk.2) (.int .i64 t273)) (fun _ hk => hk.2) (.int .i64 t274)) (fun _ hk => hk.2) (.int .u64 t275)) (fun _ hk => trivial))⟩, ⟨zv1_ BK241 NB241_268⟩, ⟨zv1_ BK242 NB242_268⟩, ⟨zv1_ BK243 NB243_268⟩, ⟨zv1_ BK267 NB267_268⟩, ⟨zo3_ BK268⟩, ⟨zw5_ HB GE241 GE242 GE243 GE267 GE268⟩⟩

end Go.Proofs.Ytcipfhlcgnomaaa.PConvBacks
