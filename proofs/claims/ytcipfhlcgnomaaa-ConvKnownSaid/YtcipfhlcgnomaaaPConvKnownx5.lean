/- The functions that the law ConvKnown reaches, as Lean functions, and that each call of the Go function does what its Lean function says, wherever that one answers. Written by a program of mine over the print of the kit; Lean checks it. -/
import Derived.Test.YtcipfhlcgnomaaaPConvKnownx0
import Derived.Test.YtcipfhlcgnomaaaPConvKnownx1
import Derived.Test.YtcipfhlcgnomaaaPConvKnownx2
import Derived.Test.YtcipfhlcgnomaaaPConvKnownx4
namespace Go.Proofs.Ytcipfhlcgnomaaa.PConvKnown
open Go.RowKit Go.Proofs.YtcipfhlcgnomaaaW.PrintWords Go.Proofs.YtcipfhlcgnomaaaW.PrintLast Go.Proofs.YtcipfhlcgnomaaaW.PrintMore
attribute [local go_sem] max2_int min2_int max_two min_two max_three min_three max_four min_four   -- for this text's walks alone
set_option linter.unusedVariables false
set_option linter.unusedSimpArgs false

/-! ### conv_Row: function 13 -/
mutual
def conv_Row.j0 : Nat → Int → Bool → List Int → List Int → List Int → List Int → Option (List Int × List Int × Int)
 | 0, _, _, _, _, _, _ => none
 | k + 1, x2, x20, x173000, x173001, x174000, x174001 => if x20 = true then (some (([] : List Int), ([] : List Int), 1)) else (if (x173000.length : Int) = 2 then (if (x174000.length : Int) = 3 then (if 1 < (x174000.length : Int) then (if 0 < (x173000.length : Int) then (if (rd x174000 1) = (rd x173000 0) then (if 2 < (x174000.length : Int) then (if 1 < (x173000.length : Int) then (if (rd x174000 2) > (rd x173000 1) then (some (([] : List Int), ([] : List Int), 4)) else ((conv_windows.f (rd x173000 1) (rd x174000 2) x2).bind fun t185 => (if 0 < (x174000.length : Int) then ((conv_of.f k (([rd x174000 0, t185] : List Int))).bind fun bt190 => (if bt190.2.2 = 0 then (conv_Row.l0 k x2 (rd x173000 0) (rd x173000 1) (rd x174000 2) t185 (bt190.2.1.length : Int) 0 x173000 x173001 x174000 x174001 bt190.1 bt190.2.1) else (some (([] : List Int), ([] : List Int), bt190.2.2)))) else (none)))) else (none)) else (none)) else (some (([] : List Int), ([] : List Int), 4))) else (none)) else (none)) else (some (([] : List Int), ([] : List Int), 4))) else (some (([] : List Int), ([] : List Int), 4)))
def conv_Row.l0 : Nat → Int → Int → Int → Int → Int → Int → Int → List Int → List Int → List Int → List Int → List Int → List Int → Option (List Int × List Int × Int)
 | 0, _, _, _, _, _, _, _, _, _, _, _, _, _ => none
 | k + 1, x2, x8, x9, x10, x11, x101, x102, x173000, x173001, x174000, x174001, x198000, x198001 => if x102 < x101 then (if x11 = 0 then (none) else (conv_Row.l1 k x2 x8 x9 x10 x11 x102 (wrap64 (Int.tdiv x102 x11)) (Int.tmod x102 x11) x101 x102 x8 0 x173000 x173001 x174000 x174001 x198000 x198001 0 0 0)) else (some (x198000, x198001, 0))
def conv_Row.l1 : Nat → Int → Int → Int → Int → Int → Int → Int → Int → Int → Int → Int → Int → List Int → List Int → List Int → List Int → List Int → List Int → Int → Int → Int → Option (List Int × List Int × Int)
 | 0, _, _, _, _, _, _, _, _, _, _, _, _, _, _, _, _, _, _, _, _, _ => none
 | k + 1, x2, x8, x9, x10, x11, x14, x15, x16, x101, x102, x111, x112, x173000, x173001, x174000, x174001, x198000, x198001, x199000, x199001, x199002 => if x112 < x111 then (conv_Row.l2 k x2 x8 x9 x10 x11 x14 x15 x16 x112 x101 x102 x111 x112 x10 0 x173000 x173001 x174000 x174001 x198000 x198001 x199000 x199001 x199002) else ((wide_Acc_Fix.f k x199000 x199001 x199002 32).bind fun t199 => (if 0 ≤ x14 then (if x14 < (x198001.length : Int) then (conv_Row.l0 k x2 x8 x9 x10 x11 x101 (wrap64 (x102 + 1)) x173000 x173001 x174000 x174001 x198000 (x198001.set (x14 : Int).toNat t199)) else (none)) else (none)))
def conv_Row.l2 : Nat → Int → Int → Int → Int → Int → Int → Int → Int → Int → Int → Int → Int → Int → Int → Int → List Int → List Int → List Int → List Int → List Int → List Int → Int → Int → Int → Option (List Int × List Int × Int)
 | 0, _, _, _, _, _, _, _, _, _, _, _, _, _, _, _, _, _, _, _, _, _, _, _, _ => none
 | k + 1, x2, x8, x9, x10, x11, x14, x15, x16, x18, x101, x102, x111, x112, x115, x116, x173000, x173001, x174000, x174001, x198000, x198001, x199000, x199001, x199002 => if x116 < x115 then (if 0 ≤ (wrap64 ((wrap64 ((wrap64 (x18 * x9)) + (wrap64 (x16 * x2)))) + x116)) then (if (wrap64 ((wrap64 ((wrap64 (x18 * x9)) + (wrap64 (x16 * x2)))) + x116)) < (x173001.length : Int) then (if 0 ≤ (wrap64 ((wrap64 ((wrap64 ((wrap64 (x15 * x8)) + x18)) * x10)) + x116)) then (if (wrap64 ((wrap64 ((wrap64 ((wrap64 (x15 * x8)) + x18)) * x10)) + x116)) < (x174001.length : Int) then ((wide_Acc_Plus.f x199000 x199001 x199002 (rd x173001 (wrap64 ((wrap64 ((wrap64 (x18 * x9)) + (wrap64 (x16 * x2)))) + x116))) (rd x174001 (wrap64 ((wrap64 ((wrap64 ((wrap64 (x15 * x8)) + x18)) * x10)) + x116)))).bind fun bt203 => (conv_Row.l2 k x2 x8 x9 x10 x11 x14 x15 x16 x18 x101 x102 x111 x112 x115 (wrap64 (x116 + 1)) x173000 x173001 x174000 x174001 x198000 x198001 bt203.1 bt203.2.1 bt203.2.2)) else (none)) else (none)) else (none)) else (none)) else (conv_Row.l1 k x2 x8 x9 x10 x11 x14 x15 x16 x101 x102 x111 (wrap64 (x112 + 1)) x173000 x173001 x174000 x174001 x198000 x198001 x199000 x199001 x199002)
end
def conv_Row.f (k : Nat) (l0_0 : List Int) (l0_1 : List Int) (l1_0 : List Int) (l1_1 : List Int) (a2 : Int) : Option (List Int × List Int × Int) := (tens_Good.f k l0_0 l0_1).bind fun t175 => (if t175 = true then ((tens_Good.f k l1_0 l1_1).bind fun t176 => (if t176 = true then ((conv_stepGood.f a2).bind fun t177 => (conv_Row.j0 k a2 (!t177) l0_0 l0_1 l1_0 l1_1)) else (conv_Row.j0 k a2 true l0_0 l0_1 l1_0 l1_1))) else (conv_Row.j0 k a2 true l0_0 l0_1 l1_0 l1_1))
theorem conv_Row.mono_l : ∀ k, (∀ y0 y1 y2 y3 y4 y5, LeO (conv_Row.j0 k y0 y1 y2 y3 y4 y5) (conv_Row.j0 (k + 1) y0 y1 y2 y3 y4 y5)) ∧ (∀ y0 y1 y2 y3 y4 y5 y6 y7 y8 y9 y10 y11 y12, LeO (conv_Row.l0 k y0 y1 y2 y3 y4 y5 y6 y7 y8 y9 y10 y11 y12) (conv_Row.l0 (k + 1) y0 y1 y2 y3 y4 y5 y6 y7 y8 y9 y10 y11 y12)) ∧ (∀ y0 y1 y2 y3 y4 y5 y6 y7 y8 y9 y10 y11 y12 y13 y14 y15 y16 y17 y18 y19 y20, LeO (conv_Row.l1 k y0 y1 y2 y3 y4 y5 y6 y7 y8 y9 y10 y11 y12 y13 y14 y15 y16 y17 y18 y19 y20) (conv_Row.l1 (k + 1) y0 y1 y2 y3 y4 y5 y6 y7 y8 y9 y10 y11 y12 y13 y14 y15 y16 y17 y18 y19 y20)) ∧ (∀ y0 y1 y2 y3 y4 y5 y6 y7 y8 y9 y10 y11 y12 y13 y14 y15 y16 y17 y18 y19 y20 y21 y22 y23, LeO (conv_Row.l2 k y0 y1 y2 y3 y4 y5 y6 y7 y8 y9 y10 y11 y12 y13 y14 y15 y16 y17 y18 y19 y20 y21 y22 y23) (conv_Row.l2 (k + 1) y0 y1 y2 y3 y4 y5 y6 y7 y8 y9 y10 y11 y12 y13 y14 y15 y16 y17 y18 y19 y20 y21 y22 y23))
 | 0 => ⟨fun _ _ _ _ _ _ r h => by simp [conv_Row.j0] at h, fun _ _ _ _ _ _ _ _ _ _ _ _ _ r h => by simp [conv_Row.l0] at h, fun _ _ _ _ _ _ _ _ _ _ _ _ _ _ _ _ _ _ _ _ _ r h => by simp [conv_Row.l1] at h, fun _ _ _ _ _ _ _ _ _ _ _ _ _ _ _ _ _ _ _ _ _ _ _ _ r h => by simp [conv_Row.l2] at h⟩
 | k + 1 => by
  obtain ⟨ih0, ih1, ih2, ih3⟩ := conv_Row.mono_l k
  refine ⟨?_, ?_, ?_, ?_⟩
  ·intro y0 y1 y2 y3 y4 y5
   unfold conv_Row.j0
   repeat' first
   | (with_reducible exact ih0 _ _ _ _ _ _)
   | (with_reducible exact ih1 _ _ _ _ _ _ _ _ _ _ _ _ _)
   | (with_reducible exact ih2 _ _ _ _ _ _ _ _ _ _ _ _ _ _ _ _ _ _ _ _ _)
   | (with_reducible exact ih3 _ _ _ _ _ _ _ _ _ _ _ _ _ _ _ _ _ _ _ _ _ _ _ _)
   | (with_reducible exact conv_of.mono _ _)
   | (with_reducible exact LeO.refl _)
   | (with_reducible exact LeO.none _)
   | (with_reducible refine LeO.ite ?_ ?_)
   | (with_reducible refine LeO.bind ?_ (fun _ => ?_))
   | exact ih0 _ _ _ _ _ _
   | exact ih1 _ _ _ _ _ _ _ _ _ _ _ _ _
   | exact ih2 _ _ _ _ _ _ _ _ _ _ _ _ _ _ _ _ _ _ _ _ _
   | exact ih3 _ _ _ _ _ _ _ _ _ _ _ _ _ _ _ _ _ _ _ _ _ _ _ _
   | exact conv_of.mono _ _
   | exact LeO.none _
   | refine LeO.ite ?_ ?_
   | refine LeO.bind ?_ (fun _ => ?_)
  ·intro y0 y1 y2 y3 y4 y5 y6 y7 y8 y9 y10 y11 y12
   unfold conv_Row.l0
   repeat' first
   | (with_reducible exact ih0 _ _ _ _ _ _)
   | (with_reducible exact ih1 _ _ _ _ _ _ _ _ _ _ _ _ _)
   | (with_reducible exact ih2 _ _ _ _ _ _ _ _ _ _ _ _ _ _ _ _ _ _ _ _ _)
   | (with_reducible exact ih3 _ _ _ _ _ _ _ _ _ _ _ _ _ _ _ _ _ _ _ _ _ _ _ _)
   | (with_reducible exact LeO.refl _)
   | (with_reducible exact LeO.none _)
   | (with_reducible refine LeO.ite ?_ ?_)
   | (with_reducible refine LeO.bind ?_ (fun _ => ?_))
   | exact ih0 _ _ _ _ _ _
   | exact ih1 _ _ _ _ _ _ _ _ _ _ _ _ _
   | exact ih2 _ _ _ _ _ _ _ _ _ _ _ _ _ _ _ _ _ _ _ _ _
   | exact ih3 _ _ _ _ _ _ _ _ _ _ _ _ _ _ _ _ _ _ _ _ _ _ _ _
   | exact LeO.none _
   | refine LeO.ite ?_ ?_
   | refine LeO.bind ?_ (fun _ => ?_)
  ·intro y0 y1 y2 y3 y4 y5 y6 y7 y8 y9 y10 y11 y12 y13 y14 y15 y16 y17 y18 y19 y20
   unfold conv_Row.l1
   repeat' first
   | (with_reducible exact ih0 _ _ _ _ _ _)
   | (with_reducible exact ih1 _ _ _ _ _ _ _ _ _ _ _ _ _)
   | (with_reducible exact ih2 _ _ _ _ _ _ _ _ _ _ _ _ _ _ _ _ _ _ _ _ _)
   | (with_reducible exact ih3 _ _ _ _ _ _ _ _ _ _ _ _ _ _ _ _ _ _ _ _ _ _ _ _)
   | (with_reducible exact wide_Acc_Fix.mono _ _ _ _ _)
   | (with_reducible exact LeO.refl _)
   | (with_reducible exact LeO.none _)
   | (with_reducible refine LeO.ite ?_ ?_)
   | (with_reducible refine LeO.bind ?_ (fun _ => ?_))
   | exact ih0 _ _ _ _ _ _
   | exact ih1 _ _ _ _ _ _ _ _ _ _ _ _ _
   | exact ih2 _ _ _ _ _ _ _ _ _ _ _ _ _ _ _ _ _ _ _ _ _
   | exact ih3 _ _ _ _ _ _ _ _ _ _ _ _ _ _ _ _ _ _ _ _ _ _ _ _
   | exact wide_Acc_Fix.mono _ _ _ _ _
   | exact LeO.none _
   | refine LeO.ite ?_ ?_
   | refine LeO.bind ?_ (fun _ => ?_)
  ·intro y0 y1 y2 y3 y4 y5 y6 y7 y8 y9 y10 y11 y12 y13 y14 y15 y16 y17 y18 y19 y20 y21 y22 y23
   unfold conv_Row.l2
   repeat' first
   | (with_reducible exact ih0 _ _ _ _ _ _)
   | (with_reducible exact ih1 _ _ _ _ _ _ _ _ _ _ _ _ _)
   | (with_reducible exact ih2 _ _ _ _ _ _ _ _ _ _ _ _ _ _ _ _ _ _ _ _ _)
   | (with_reducible exact ih3 _ _ _ _ _ _ _ _ _ _ _ _ _ _ _ _ _ _ _ _ _ _ _ _)
   | (with_reducible exact LeO.refl _)
   | (with_reducible exact LeO.none _)
   | (with_reducible refine LeO.ite ?_ ?_)
   | (with_reducible refine LeO.bind ?_ (fun _ => ?_))
   | exact ih0 _ _ _ _ _ _
   | exact ih1 _ _ _ _ _ _ _ _ _ _ _ _ _
   | exact ih2 _ _ _ _ _ _ _ _ _ _ _ _ _ _ _ _ _ _ _ _ _
   | exact ih3 _ _ _ _ _ _ _ _ _ _ _ _ _ _ _ _ _ _ _ _ _ _ _ _
   | exact LeO.none _
   | refine LeO.ite ?_ ?_
   | refine LeO.bind ?_ (fun _ => ?_)
theorem conv_Row.mono : ∀ a0 a1 a2 a3 a4 k, LeO (conv_Row.f k a0 a1 a2 a3 a4) (conv_Row.f (k + 1) a0 a1 a2 a3 a4) := by
 intro a0 a1 a2 a3 a4 k
 obtain ⟨ih0, ih1, ih2, ih3⟩ := conv_Row.mono_l k
 unfold conv_Row.f
 repeat' first
   | (with_reducible exact ih0 _ _ _ _ _ _)
   | (with_reducible exact ih1 _ _ _ _ _ _ _ _ _ _ _ _ _)
   | (with_reducible exact ih2 _ _ _ _ _ _ _ _ _ _ _ _ _ _ _ _ _ _ _ _ _)
   | (with_reducible exact ih3 _ _ _ _ _ _ _ _ _ _ _ _ _ _ _ _ _ _ _ _ _ _ _ _)
   | (with_reducible exact tens_Good.mono _ _ _)
   | (with_reducible exact LeO.refl _)
   | (with_reducible exact LeO.none _)
   | (with_reducible refine LeO.ite ?_ ?_)
   | (with_reducible refine LeO.bind ?_ (fun _ => ?_))
   | exact ih0 _ _ _ _ _ _
   | exact ih1 _ _ _ _ _ _ _ _ _ _ _ _ _
   | exact ih2 _ _ _ _ _ _ _ _ _ _ _ _ _ _ _ _ _ _ _ _ _
   | exact ih3 _ _ _ _ _ _ _ _ _ _ _ _ _ _ _ _ _ _ _ _ _ _ _ _
   | exact tens_Good.mono _ _ _
   | exact LeO.none _
   | refine LeO.ite ?_ ?_
   | refine LeO.bind ?_ (fun _ => ?_)
def conv_Row.T3 : Bool × List (List Nat × List Nat) := (true, [([], []), ([0], [0]), ([1], [1]), ([2], [2]), ([3], [3]), ([4], [4]), ([5, 4], [4, 5]), ([6, 4], [4, 6]), ([7, 4], [4, 7]), ([4, 8], [4, 8]), ([9, 4], [9]), ([10], [10]), ([11, 10], [10, 11]), ([12, 10], [10, 12]), ([13, 10], [10, 13]), ([10], [10]), ([15, 10], [10, 15]), ([16, 10], [10, 16]), ([17, 10], [10, 17]), ([14, 18, 10], [10, 14, 18]), ([10, 19], [10, 19]), ([20, 10], [20]), ([21], [21]), ([22, 21], [21, 22]), ([23, 21], [21, 23]), ([24, 21], [21, 24]), ([21], [21]), ([26, 21], [21, 26]), ([27, 21], [21, 27]), ([28, 21], [21, 28]), ([25, 29, 21], [21, 25, 29]), ([21, 30], [21, 30]), ([31, 21], [31])])
def conv_Row.B3 : List Nat := [0, 1, 3, 7, 15, 31, 63, 127, 255, 511, 1023, 2047, 4095, 8191, 16383, 2047, 34815, 100351, 231423, 524287, 1048575, 2097151, 4194303, 8388607, 16777215, 33554431, 4194303, 71303167, 205520895, 473956351, 1073741823, 2147483647, 4294967295]
theorem conv_Row.tab3 : rtab .any (opsOf Try.f13 3) = conv_Row.T3 := by kernel_rfl
theorem conv_Row.bits3 : waitsOk conv_Row.T3.2 conv_Row.B3 = true := by kernel_rfl
def conv_Row.T5 : Bool × List (List Nat × List Nat) := (true, [([], []), ([0], [0]), ([1], [1]), ([2], [2]), ([], []), ([4], [4]), ([5], [5]), ([6], [6]), ([], []), ([8], [8]), ([9], [9]), ([10], [10]), ([3, 0, 1, 2, 3], [3]), ([7, 12, 0, 1, 2, 3, 4, 5, 6, 7, 12], [7]), ([11, 13, 0, 1, 2, 3, 4, 5, 6, 7, 8, 9, 10, 11, 12, 13], [11])])
def conv_Row.B5 : List Nat := [0, 1, 3, 7, 0, 16, 48, 112, 0, 256, 768, 1792, 15, 4351, 16383]
theorem conv_Row.tab5 : rtab .any (opsOf Try.f13 5) = conv_Row.T5 := by kernel_rfl
theorem conv_Row.bits5 : waitsOk conv_Row.T5.2 conv_Row.B5 = true := by kernel_rfl
def conv_Row.T13 : Bool × List (List Nat × List Nat) := (true, [([], []), ([], []), ([0, 1], [0, 1]), ([], []), ([], []), ([3, 4], [3, 4]), ([2, 0, 1, 2], [2]), ([5, 6, 0, 1, 2, 3, 4, 5, 6], [5])])
def conv_Row.B13 : List Nat := [0, 0, 3, 0, 0, 24, 7, 127]
theorem conv_Row.tab13 : rtab .any (opsOf Try.f13 13) = conv_Row.T13 := by kernel_rfl
theorem conv_Row.bits13 : waitsOk conv_Row.T13.2 conv_Row.B13 = true := by kernel_rfl
def conv_Row.T21 : Bool × List (List Nat × List Nat) := (true, [([], []), ([0], [0]), ([], []), ([], []), ([2, 3], [2, 3]), ([], []), ([], []), ([5, 6], [5, 6]), ([4, 7], [4, 7]), ([], []), ([8, 9], [8, 9]), ([1, 10], [1, 10]), ([11], [11]), ([], []), ([13], [13]), ([], []), ([], []), ([15, 16], [15, 16]), ([], []), ([17, 18], [17, 18]), ([], []), ([19, 20], [19, 20]), ([], []), ([21, 22], [21, 22]), ([14, 23], [14, 23]), ([24], [24]), ([12, 25], [12, 25])])
def conv_Row.B21 : List Nat := [0, 1, 0, 0, 12, 0, 0, 96, 252, 0, 1020, 2047, 4095, 0, 8192, 0, 0, 98304, 0, 491520, 0, 2064384, 0, 8355840, 16769024, 33546240, 67108863]
theorem conv_Row.tab21 : rtab .any (opsOf Try.f13 21) = conv_Row.T21 := by kernel_rfl
theorem conv_Row.bits21 : waitsOk conv_Row.T21.2 conv_Row.B21 = true := by kernel_rfl
set_option maxHeartbeats 8000000 in
set_option maxRecDepth 100000 in
theorem conv_Row.calls (k : Nat) (A0_0 : Option Addr) (c0_0 : Nat) (l0_0 : List Int) (A0_1 : Option Addr) (c0_1 : Nat) (l0_1 : List Int) (A1_0 : Option Addr) (c1_0 : Nat) (l1_0 : List Int) (A1_1 : Option Addr) (c1_1 : Nat) (l1_1 : List Int) (a2 : Int) (r1 : List Int) (r2 : List Int) (r3 : Int) (w : World) (hr0_0 : Kd.C (Kd.int .i64) w A0_0 l0_0.length l0_0) (hc0_0 : l0_0.length ≤ c0_0) (hr0_1 : Kd.C (Kd.int .i64) w A0_1 l0_1.length l0_1) (hc0_1 : l0_1.length ≤ c0_1) (hr1_0 : Kd.C (Kd.int .i64) w A1_0 l1_0.length l1_0) (hc1_0 : l1_0.length ≤ c1_0) (hr1_1 : Kd.C (Kd.int .i64) w A1_1 l1_1.length l1_1) (hc1_1 : l1_1.length ≤ c1_1) (h : conv_Row.f k l0_0 l0_1 l1_0 l1_1 a2 = some (r1, r2, r3)) :
  Calls Try.prog 13 #[.agg #[.slice A0_0 l0_0.length c0_0, .slice A0_1 l0_1.length c0_1], .agg #[.slice A1_0 l1_0.length c1_0, .slice A1_1 l1_1.length c1_1], .int .i64 a2] w fun e w' => ∃ v0_ v1_ : Value, e = .returned (.tuple #[.agg #[v0_, v1_], .int .i64 r3]) ∧ Kd.R (Kd.int .i64) 3 w' w.heap.size (fun _ => True) v0_ r1 ∧ Kd.R (Kd.int .i64) 33 w' w.heap.size (fun _ => True) v1_ r2 ∧ Below w.heap.size w w' := by
 have hu25 := Try.underlying25
 have hu54 := Try.underlying54
 have HR0_0 := Aside0.mk hr0_0
 have HC0_0 := Aside0.mk hc0_0
 clear hr0_0 hc0_0
 have HR0_1 := Aside0.mk hr0_1
 have HC0_1 := Aside0.mk hc0_1
 clear hr0_1 hc0_1
 have HR1_0 := Aside0.mk hr1_0
 have HC1_0 := Aside0.mk hc1_0
 clear hr1_0 hc1_0
 have HR1_1 := Aside0.mk hr1_1
 have HC1_1 := Aside0.mk hc1_1
 clear hr1_1 hc1_1
 have HB := Aside0.mk (Below.refl w.heap.size w)
 have H : ((tens_Good.f k l0_0 l0_1).bind fun t175 => (if t175 = true then ((tens_Good.f k l1_0 l1_1).bind fun t176 => (if t176 = true then ((conv_stepGood.f a2).bind fun t177 => (conv_Row.j0 k a2 (!t177) l0_0 l0_1 l1_0 l1_1)) else (conv_Row.j0 k a2 true l0_0 l0_1 l1_0 l1_1))) else (conv_Row.j0 k a2 true l0_0 l0_1 l1_0 l1_1))) = some (r1, r2, r3) := h
 clear h
 have HC4 := Aside0.mk H
 clear H
 go_enter Try.func13, Try.ntmps13
 go_upto_region 1 with (first | ((with_reducible refine gate_dst (N := 3) rfl ?_); (try (refine gate_guard (by rfl) ?_; dsimp only)); refine box_event ?hg (N := 3) ?hd (cs := #[.slice A0_0 l0_0.length c0_0, .slice A0_1 l0_1.length c0_1]) (t := 25) ?hr ?_; (case hd => rfl); (case hg => rfl); (case hr => first | (go_simp; done) | (go_simp; rfl)); intro gb172 hg w5 hbox hb; have BK172 := Aside0.mk (hbox); have GW172 := Aside0.mk (zs_ hg (zw0_ HB)); have GE172 := Aside0.mk (zs_ hg (zw0_ HB)); replace HB := Aside0.mk (below_step (zw0_ HB) hb); clear hb hbox hg) | ((with_reducible refine gate_dst (N := 4) rfl ?_); (try (refine gate_guard (by rfl) ?_; dsimp only)); refine box_event ?hg (N := 4) ?hd (cs := #[.slice A1_0 l1_0.length c1_0, .slice A1_1 l1_1.length c1_1]) (t := 25) ?hr ?_; (case hd => rfl); (case hg => rfl); (case hr => first | (go_simp; done) | (go_simp; rfl)); intro gb173 hg w6 hbox hb; have BK173 := Aside0.mk (hbox); have GW173 := Aside0.mk (zs_ hg (zw1_ HB GE172)); have GE173 := Aside0.mk (zs_ hg (zw1_ HB GE172)); replace HB := Aside0.mk (below_step (zw1_ HB GE172) hb); have NB172_173 := Aside0.mk (zn_ hg BK172); have NB173_172 := Aside0.mk (zm_ hg BK172); replace BK172 := za_ BK172 hb; clear hb hbox hg) | ((with_reducible refine gate_dst (N := 6) rfl ?_); (try (refine gate_guard (by rfl) ?_; dsimp only)); refine box_event ?hg (N := 6) ?hd (cs := #[.slice none 0 0, .slice none 0 0]) (t := 25) ?hr ?_; (case hd => rfl); (case hg => rfl); (case hr => first | (go_simp; done) | (go_simp; rfl)); intro gb174 hg w7 hbox hb; have BK174 := Aside0.mk (hbox); have GW174 := Aside0.mk (zs_ hg (zw2_ HB GE172 GE173)); have GE174 := Aside0.mk (zs_ hg (zw2_ HB GE172 GE173)); replace HB := Aside0.mk (below_step (zw2_ HB GE172 GE173) hb); have NB172_174 := Aside0.mk (zn_ hg BK172); have NB174_172 := Aside0.mk (zm_ hg BK172); replace BK172 := za_ BK172 hb; have NB173_174 := Aside0.mk (zn_ hg BK173); have NB174_173 := Aside0.mk (zm_ hg BK173); replace BK173 := za_ BK173 hb; clear hb hbox hg))
 (try simp only [Act.put, List.setIfInBounds_toArray, List.set_cons_zero, List.set_cons_succ])
 go_cut [20] (fun v20 wc => ∃ (kq : Nat) (x20_3 : Bool), v20 = .bool x20_3 ∧ Aside0 (conv_Row.j0 kq a2 x20_3 l0_0 l0_1 l1_0 l1_1 = some (r1, r2, r3)) ∧ Aside0 (kq ≤ k) ∧ Aside0 (wc.heap[gb172]? = some (.cells #[(.slice A0_0 l0_0.length c0_0), (.slice A0_1 l0_1.length c0_1)] 25 (0, 0))) ∧ Aside0 (wc.heap[gb173]? = some (.cells #[(.slice A1_0 l1_0.length c1_0), (.slice A1_1 l1_1.length c1_1)] 25 (0, 0))) ∧ Aside0 (wc.heap[gb174]? = some (.cells #[(.slice none 0 0), (.slice none 0 0)] 25 (0, 0))) ∧ Aside0 (Below w.heap.size w wc))
 case first =>
  have H := HC4.out
  clear HC4
  replace H := Option.bind_eq_some_iff.mp H
  obtain ⟨t175, A80, H⟩ := H
  (try dsimp only at H)
  have A8 := Aside0.mk A80
  clear A80
  by_cases c9 : t175 = true
  rotate_left
  ·replace c9 := Bool.eq_false_iff.mpr c9
   subst c9
   have H1 : (conv_Row.j0 k a2 true l0_0 l0_1 l1_0 l1_1) = some (r1, r2, r3) := by rw [if_neg (show ¬ (false = true) by decide)] at H; exact H
   clear H
   have H := H1
   clear H1
   have H' := Aside0.mk H
   clear H
   have hnb27 := NB172_173.out
   have hnc27 := NB173_172.out
   have hnb28 := NB172_174.out
   have hnc28 := NB174_172.out
   have hcz29_0 := zx_ (v := .slice A0_0 l0_0.length c0_0) BK172 0
   have hcz29_1 := zx_ (v := .slice A0_1 l0_1.length c0_1) BK172 1
   have hfz29_0 := blk_frozen BK172.out 0
   have hfz29_1 := blk_frozen BK172.out 1
   go_wp2_with (first | ((with_reducible refine gate_callee (f := 26) rfl ?_); refine zg_ (some 22) Try.func26 #[.agg #[.slice A0_0 l0_0.length c0_0, .slice A0_1 l0_1.length c0_1]] (h := ?_); (with_reducible refine (tens_Good.calls k _ _ l0_0 _ _ l0_1 false _ ?side1 ?side2 ?side3 ?side4 A8.out).mono ?_); (case side1 => exact zk_ (Kd.C_below HR0_0.out HB.out)); (case side2 => exact HC0_0.out); (case side3 => exact zk_ (Kd.C_below HR0_1.out HB.out)); (case side4 => exact HC0_1.out); rintro e w30 ⟨rfl, hb⟩; refine ⟨_, rfl, ?_⟩; replace BK172 := za_ BK172 hb; replace BK173 := za_ BK173 hb; replace BK174 := za_ BK174 hb; replace HB := Aside0.mk (below_step (zw3_ HB GE172 GE173 GE174) hb); (try clear hb)))
   go_meet
   case rel => exact ⟨_, (true), z1_, H', ⟨by first | omega | exact Nat.le_refl _⟩, ⟨zb_ BK172⟩, ⟨zb_ BK173⟩, ⟨zb_ BK174⟩, ⟨zw3_ HB GE172 GE173 GE174⟩⟩
  subst c9
  have H1 := H
  rw [if_pos rfl] at H1
  clear H
  have H := H1
  clear H1
  replace H := Option.bind_eq_some_iff.mp H
  obtain ⟨t176, A100, H⟩ := H
  (try dsimp only at H)
  have A10 := Aside0.mk A100
  clear A100
  by_cases c11 : t176 = true
  rotate_left
  ·replace c11 := Bool.eq_false_iff.mpr c11
   subst c11
   have H1 : (conv_Row.j0 k a2 true l0_0 l0_1 l1_0 l1_1) = some (r1, r2, r3) := by rw [if_neg (show ¬ (false = true) by decide)] at H; exact H
   clear H
   have H := H1
   clear H1
   have H' := Aside0.mk H
   clear H
   have hnb20 := NB172_173.out
   have hnc20 := NB173_172.out
   have hnb21 := NB172_174.out
   have hnc21 := NB174_172.out
   have hcz22_0 := zx_ (v := .slice A0_0 l0_0.length c0_0) BK172 0
   have hcz22_1 := zx_ (v := .slice A0_1 l0_1.length c0_1) BK172 1
   have hfz22_0 := blk_frozen BK172.out 0
   have hfz22_1 := blk_frozen BK172.out 1
   go_wp2_with (first | ((with_reducible refine gate_callee (f := 26) rfl ?_); refine zg_ (some 22) Try.func26 #[.agg #[.slice A0_0 l0_0.length c0_0, .slice A0_1 l0_1.length c0_1]] (h := ?_); (with_reducible refine (tens_Good.calls k _ _ l0_0 _ _ l0_1 true _ ?side1 ?side2 ?side3 ?side4 A8.out).mono ?_); (case side1 => exact zk_ (Kd.C_below HR0_0.out HB.out)); (case side2 => exact HC0_0.out); (case side3 => exact zk_ (Kd.C_below HR0_1.out HB.out)); (case side4 => exact HC0_1.out); rintro e w23 ⟨rfl, hb⟩; refine ⟨_, rfl, ?_⟩; replace BK172 := za_ BK172 hb; replace BK173 := za_ BK173 hb; replace BK174 := za_ BK174 hb; replace HB := Aside0.mk (below_step (zw3_ HB GE172 GE173 GE174) hb); (try clear hb); have hnb24 := NB173_174.out; have hnc24 := NB174_173.out; have hcz25_0 := zx_ (v := .slice A1_0 l1_0.length c1_0) BK173 0; have hcz25_1 := zx_ (v := .slice A1_1 l1_1.length c1_1) BK173 1; have hfz25_0 := blk_frozen BK173.out 0; have hfz25_1 := blk_frozen BK173.out 1) | (go_at_call 26; (with_reducible refine (tens_Good.calls k _ _ l1_0 _ _ l1_1 false _ ?side1 ?side2 ?side3 ?side4 A10.out).mono ?_); (case side1 => exact zk_ (Kd.C_below HR1_0.out HB.out)); (case side2 => exact HC1_0.out); (case side3 => exact zk_ (Kd.C_below HR1_1.out HB.out)); (case side4 => exact HC1_1.out); rintro e w26 ⟨rfl, hb⟩; replace BK172 := za_ BK172 hb; replace BK173 := za_ BK173 hb; replace BK174 := za_ BK174 hb; replace HB := Aside0.mk (below_step (zw3_ HB GE172 GE173 GE174) hb); (try clear hb)))
   go_meet
   case rel => exact ⟨_, (true), z1_, H', ⟨by first | omega | exact Nat.le_refl _⟩, ⟨zb_ BK172⟩, ⟨zb_ BK173⟩, ⟨zb_ BK174⟩, ⟨zw3_ HB GE172 GE173 GE174⟩⟩
  subst c11
  have H1 : ((conv_stepGood.f a2).bind fun t177 => (conv_Row.j0 k a2 (!t177) l0_0 l0_1 l1_0 l1_1)) = some (r1, r2, r3) := by rw [if_pos rfl] at H; exact H
  clear H
  have H := H1
  clear H1
  replace H := Option.bind_eq_some_iff.mp H
  obtain ⟨t177, A120, H⟩ := H
  replace H : (conv_Row.j0 k a2 (!t177) l0_0 l0_1 l1_0 l1_1) = some (r1, r2, r3) := H
  have A12 := Aside0.mk A120
  clear A120
  have H' := Aside0.mk H
  clear H
  have hnb13 := NB172_173.out
  have hnc13 := NB173_172.out
  have hnb14 := NB172_174.out
  have hnc14 := NB174_172.out
  have hcz15_0 := zx_ (v := .slice A0_0 l0_0.length c0_0) BK172 0
  have hcz15_1 := zx_ (v := .slice A0_1 l0_1.length c0_1) BK172 1
  have hfz15_0 := blk_frozen BK172.out 0
  have hfz15_1 := blk_frozen BK172.out 1
  go_wp2_with (first | ((with_reducible refine gate_callee (f := 26) rfl ?_); refine zg_ (some 22) Try.func26 #[.agg #[.slice A0_0 l0_0.length c0_0, .slice A0_1 l0_1.length c0_1]] (h := ?_); (with_reducible refine (tens_Good.calls k _ _ l0_0 _ _ l0_1 true _ ?side1 ?side2 ?side3 ?side4 A8.out).mono ?_); (case side1 => exact zk_ (Kd.C_below HR0_0.out HB.out)); (case side2 => exact HC0_0.out); (case side3 => exact zk_ (Kd.C_below HR0_1.out HB.out)); (case side4 => exact HC0_1.out); rintro e w16 ⟨rfl, hb⟩; refine ⟨_, rfl, ?_⟩; replace BK172 := za_ BK172 hb; replace BK173 := za_ BK173 hb; replace BK174 := za_ BK174 hb; replace HB := Aside0.mk (below_step (zw3_ HB GE172 GE173 GE174) hb); (try clear hb); have hnb17 := NB173_174.out; have hnc17 := NB174_173.out; have hcz18_0 := zx_ (v := .slice A1_0 l1_0.length c1_0) BK173 0; have hcz18_1 := zx_ (v := .slice A1_1 l1_1.length c1_1) BK173 1; have hfz18_0 := blk_frozen BK173.out 0; have hfz18_1 := blk_frozen BK173.out 1) | (go_at_call 26; (with_reducible refine (tens_Good.calls k _ _ l1_0 _ _ l1_1 true _ ?side1 ?side2 ?side3 ?side4 A10.out).mono ?_); (case side1 => exact zk_ (Kd.C_below HR1_0.out HB.out)); (case side2 => exact HC1_0.out); (case side3 => exact zk_ (Kd.C_below HR1_1.out HB.out)); (case side4 => exact HC1_1.out); rintro e w19 ⟨rfl, hb⟩; replace BK172 := za_ BK172 hb; replace BK173 := za_ BK173 hb; replace BK174 := za_ BK174 hb; replace HB := Aside0.mk (below_step (zw3_ HB GE172 GE173 GE174) hb); (try clear hb)) | (go_at_call 27; (with_reducible refine (conv_stepGood.calls a2 t177 _ A12.out).mono ?_); rintro e w' ⟨rfl, ⟨nd, rfl⟩⟩))
  go_meet
  case rel => exact ⟨_, (!t177), z1_, H', ⟨by first | omega | exact Nat.le_refl _⟩, ⟨zb_ BK172⟩, ⟨zb_ BK173⟩, ⟨zb_ BK174⟩, ⟨zw3_ HB GE172 GE173 GE174⟩⟩
 case rest =>
  clear HC4
  try clear c1
  try clear c2
  try clear p2
  try clear c9
  try clear c11
  try clear c13
  try clear c14
  try clear c17
  try clear c20
  try clear c21
  try clear c24
  try clear c26
  try clear c27
  try clear c28
  try clear hcz15_0
  try clear hcz15_1
  try clear hcz18_0
  try clear hcz18_1
  try clear hcz22_0
  try clear hcz22_1
  try clear hcz25_0
  try clear hcz25_1
  try clear hcz29_0
  try clear hcz29_1
  try clear hfz15_0
  try clear hfz15_1
  try clear hfz18_0
  try clear hfz18_1
  try clear hfz22_0
  try clear hfz22_1
  try clear hfz25_0
  try clear hfz25_1
  try clear hfz29_0
  try clear hfz29_1
  obtain ⟨kq, x20_3, rfl, HA, HJ3, BK172, BK173, BK174, HB⟩ := hcut
  cases kq with
  | zero => exact absurd HA.out (by simp [conv_Row.j0])
  | succ kj3 =>
   have H := HA.out
   clear HA
   simp only [conv_Row.j0] at H
   by_cases c31 : x20_3 = true
   ·subst c31
    have H1 : (some (([] : List Int), ([] : List Int), 1)) = some (r1, r2, r3) := by rw [if_pos rfl] at H; exact H
    clear H
    have H := H1
    clear H1
    simp only [Option.some.injEq, Prod.mk.injEq] at H
    obtain ⟨rfl, rfl, rfl⟩ := H
    have hnb32 := NB174_172.out
    have hnc32 := NB172_174.out
    have hnb33 := NB174_173.out
    have hnc33 := NB173_174.out
    have hcz34_0 := zx_ (v := .slice none 0 0) BK174 0
    have hcz34_1 := zx_ (v := .slice none 0 0) BK174 1
    have hfz34_0 := blk_frozen BK174.out 0
    have hfz34_1 := blk_frozen BK174.out 1
    go_wp2
    refine bodyPost_ret (results_ct rfl _ _ gb174 25 #[.slice none 0 0, .slice none 0 0] (0, 0) _ rfl (zo2_ BK174) Try.underlying25 rfl (by kernel_rfl)) rfl ?_
    exact ⟨_, _, z0_, z2_, z2_, zw3_ HB GE172 GE173 GE174⟩
   replace c31 := Bool.eq_false_iff.mpr c31
   subst c31
   have H1 := H
   rw [if_neg (show ¬ (false = true) by decide)] at H1
   clear H
   have H := H1
   clear H1
   by_cases c35 : (l0_0.length : Int) = 2
   rotate_left
   ·rw [if_neg c35] at H
    have c35b0 : ((l0_0.length : Int) == 2) = false := beq_eq_false_iff_ne.mpr c35
    have c35b1 : ((l0_0.length : Int) != 2) = true := bne_iff_ne.mpr c35
    simp only [Option.some.injEq, Prod.mk.injEq] at H
    obtain ⟨rfl, rfl, rfl⟩ := H
    try go_wp2
    replace BK172 := Aside0.mk (blk_drew BK172.out)
    replace BK173 := Aside0.mk (blk_drew BK173.out)
    replace BK174 := Aside0.mk (blk_drew BK174.out)
    replace HB := Aside0.mk (below_drew1 HB.out)
    refine start_ (n := 33) (S := fun w' => w'.cell? ⟨gb172, 0, none⟩ = some (.slice A0_0 l0_0.length c0_0) ∧ w'.cell? ⟨gb172, 1, none⟩ = some (.slice A0_1 l0_1.length c0_1)) (ds := []) #[false, false, false, false, false, false, false, false, false, false, false, false, false, false, false, false, false, false, false, false, false, false, false, false, false, false, false, false, false, false, false, false, false] (by kernel_rfl) rfl rfl ⟨(blk_cell BK172.out 0).trans rfl, (blk_cell BK172.out 1).trans rfl⟩ (fun hHeld => ?_); refine with_tabW conv_Row.tab3 conv_Row.bits3 (fun HT_ HW_ => ?_)
    generalize wc.drew = w134 at BK172 BK173 BK174 HB hHeld ⊢
    refine yp_ ?_ 0 36
    refine yt2_ ?_ 1 37
    refine yp_ ?_ 2 38
    refine yp_ ?_ 3 39
    refine yp_ ?_ 4 40
    refine yu_ ?_ 5 41
    refine yu_ ?_ 6 42
    refine yu_ ?_ 7 43
    refine yu_ ?_ 8 44
    refine yp_ ?_ 9 45
    refine yp_ ?_ 10 46
    refine yu_ ?_ 11 47
    refine yu_ ?_ 12 48
    refine yu_ ?_ 13 49
    refine yu_ ?_ 14 50
    refine yu_ ?_ 15 51
    refine yu_ ?_ 16 52
    refine yu_ ?_ 17 53
    refine yu_ ?_ 18 54
    refine yu_ ?_ 19 55
    refine yp_ ?_ 20 56
    refine yp_ ?_ 21 57
    refine yu_ ?_ 22 58
    refine yu_ ?_ 23 59
    refine yu_ ?_ 24 60
    refine yu_ ?_ 25 61
    refine yu_ ?_ 26 62
    refine yu_ ?_ 27 63
    refine yu_ ?_ 28 64
    refine yu_ ?_ 29 65
    refine yu_ ?_ 30 66
    refine yp_ ?_ 31 67
    refine yp_ ?_ 32 35
    refine done_ (done_of HT_.out (by kernel_rfl)) ?_
    have hnb135 := NB174_172.out
    have hnc135 := NB172_174.out
    have hnb136 := NB174_173.out
    have hnc136 := NB173_174.out
    have hcz137_0 := zx_ (v := .slice none 0 0) BK174 0
    have hcz137_1 := zx_ (v := .slice none 0 0) BK174 1
    have hfz137_0 := blk_frozen BK174.out 0
    have hfz137_1 := blk_frozen BK174.out 1
    try go_wp2
    refine bodyPost_ret (results_ct rfl _ _ gb174 25 #[.slice none 0 0, .slice none 0 0] (0, 0) _ rfl (zo2_ BK174) Try.underlying25 rfl (by kernel_rfl)) rfl ?_
    exact ⟨_, _, z0_, z2_, z2_, zw3_ HB GE172 GE173 GE174⟩
   rw [if_pos c35] at H
   have c35b0 : ((l0_0.length : Int) == 2) = true := beq_iff_eq.mpr c35
   have c35b1 : ((l0_0.length : Int) != 2) = false := bne_eq_false_iff_eq.mpr c35
   clear c35
   by_cases c36 : (l1_0.length : Int) = 3
   rotate_left
   ·rw [if_neg c36] at H
    have c36b0 : ((l1_0.length : Int) == 3) = false := beq_eq_false_iff_ne.mpr c36
    have c36b1 : ((l1_0.length : Int) != 3) = true := bne_iff_ne.mpr c36
    simp only [Option.some.injEq, Prod.mk.injEq] at H
    obtain ⟨rfl, rfl, rfl⟩ := H
    try go_wp2
    replace BK172 := Aside0.mk (blk_drew BK172.out)
    replace BK173 := Aside0.mk (blk_drew BK173.out)
    replace BK174 := Aside0.mk (blk_drew BK174.out)
    replace HB := Aside0.mk (below_drew1 HB.out)
    refine start_ (n := 33) (S := fun w' => w'.cell? ⟨gb172, 0, none⟩ = some (.slice A0_0 l0_0.length c0_0) ∧ w'.cell? ⟨gb172, 1, none⟩ = some (.slice A0_1 l0_1.length c0_1) ∧ w'.cell? ⟨gb173, 0, none⟩ = some (.slice A1_0 l1_0.length c1_0) ∧ w'.cell? ⟨gb173, 1, none⟩ = some (.slice A1_1 l1_1.length c1_1)) (ds := []) #[false, false, false, false, false, false, false, false, false, false, false, false, false, false, false, false, false, false, false, false, false, false, false, false, false, false, false, false, false, false, false, false, false] (by kernel_rfl) rfl rfl ⟨(blk_cell BK172.out 0).trans rfl, (blk_cell BK172.out 1).trans rfl, (blk_cell BK173.out 0).trans rfl, (blk_cell BK173.out 1).trans rfl⟩ (fun hHeld => ?_); refine with_tabW conv_Row.tab3 conv_Row.bits3 (fun HT_ HW_ => ?_)
    generalize wc.drew = w130 at BK172 BK173 BK174 HB hHeld ⊢
    refine yp_ ?_ 0 36
    refine yt4_ ?_ 1 37
    refine yp_ ?_ 2 38
    refine yp_ ?_ 3 39
    refine yp_ ?_ 4 40
    refine yp_ ?_ 5 41
    refine yt4_ ?_ 6 42
    refine yp_ ?_ 7 43
    refine yp_ ?_ 8 44
    refine yp_ ?_ 9 45
    refine yp_ ?_ 10 46
    refine yu_ ?_ 11 47
    refine yu_ ?_ 12 48
    refine yu_ ?_ 13 49
    refine yu_ ?_ 14 50
    refine yu_ ?_ 15 51
    refine yu_ ?_ 16 52
    refine yu_ ?_ 17 53
    refine yu_ ?_ 18 54
    refine yu_ ?_ 19 55
    refine yp_ ?_ 20 56
    refine yp_ ?_ 21 57
    refine yu_ ?_ 22 58
    refine yu_ ?_ 23 59
    refine yu_ ?_ 24 60
    refine yu_ ?_ 25 61
    refine yu_ ?_ 26 62
    refine yu_ ?_ 27 63
    refine yu_ ?_ 28 64
    refine yu_ ?_ 29 65
    refine yu_ ?_ 30 66
    refine yp_ ?_ 31 67
    refine yp_ ?_ 32 35
    refine done_ (done_of HT_.out (by kernel_rfl)) ?_
    have hnb131 := NB174_172.out
    have hnc131 := NB172_174.out
    have hnb132 := NB174_173.out
    have hnc132 := NB173_174.out
    have hcz133_0 := zx_ (v := .slice none 0 0) BK174 0
    have hcz133_1 := zx_ (v := .slice none 0 0) BK174 1
    have hfz133_0 := blk_frozen BK174.out 0
    have hfz133_1 := blk_frozen BK174.out 1
    try go_wp2
    refine bodyPost_ret (results_ct rfl _ _ gb174 25 #[.slice none 0 0, .slice none 0 0] (0, 0) _ rfl (zo2_ BK174) Try.underlying25 rfl (by kernel_rfl)) rfl ?_
    exact ⟨_, _, z0_, z2_, z2_, zw3_ HB GE172 GE173 GE174⟩
   rw [if_pos c36] at H
   have c36b0 : ((l1_0.length : Int) == 3) = true := beq_iff_eq.mpr c36
   have c36b1 : ((l1_0.length : Int) != 3) = false := bne_eq_false_iff_eq.mpr c36
   clear c36
   by_cases c37 : 1 < (l1_0.length : Int)
   rotate_left
   ·rw [if_neg c37] at H
    exact absurd H (by simp)
   rw [if_pos c37] at H
   have c37b0 : decide (1 < (l1_0.length : Int)) = true := decide_eq_true c37
   have c37b1 : decide (1 < l1_0.length) = true := decide_eq_true (by omega)
   clear c37
   by_cases c38 : 0 < (l0_0.length : Int)
   rotate_left
   ·rw [if_neg c38] at H
    exact absurd H (by simp)
   rw [if_pos c38] at H
   have c38b0 : decide (0 < (l0_0.length : Int)) = true := decide_eq_true c38
   have c38b1 : decide (0 < l0_0.length) = true := decide_eq_true (by omega)
   clear c38
   by_cases c39 : (rd l1_0 1) = (rd l0_0 0)
   rotate_left
   ·rw [if_neg c39] at H
    have c39b0 : ((rd l1_0 1) == (rd l0_0 0)) = false := beq_eq_false_iff_ne.mpr c39
    have c39b1 : ((rd l1_0 1) != (rd l0_0 0)) = true := bne_iff_ne.mpr c39
    simp only [Option.some.injEq, Prod.mk.injEq] at H
    obtain ⟨rfl, rfl, rfl⟩ := H
    try go_wp2
    replace BK172 := Aside0.mk (blk_drew BK172.out)
    replace BK173 := Aside0.mk (blk_drew BK173.out)
    replace BK174 := Aside0.mk (blk_drew BK174.out)
    replace HB := Aside0.mk (below_drew1 HB.out)
    have p178 : 0 ≤ (1 : Int) := (by omega)
    have q178 : 1 < (l1_0.length : Int) := of_decide_eq_true (by first | (with_reducible assumption) | assumption)
    obtain ⟨ad178, e178, hx178_0⟩ := Kd.at_int HR1_0.out 1 p178 q178
    have hw178_0 := hx178_0
    (try rw [show ((1 : Int)).toNat = 1 from rfl] at hw178_0)
    (try rw [show 1 * 1 = 1 from rfl] at hw178_0)
    (try simp only [Nat.reduceMul, Nat.reduceEqDiff, Go.Addr.add, ↓reduceIte] at hw178_0)
    cases e178
    (try simp only [show (1 : Int).toNat = 1 from rfl, Nat.reduceMul, Nat.reduceEqDiff, Go.Addr.add, ↓reduceIte] at hx178_0)
    have qi178 : (1 < l1_0.length) = True := eq_true (by omega)
    (try rw [show ((1 : Int)).toNat = 1 from rfl] at hx178_0)
    replace hx178_0 := (HB.out.cell (World.block_lt_of_cell? w _ hx178_0)).trans hx178_0
    replace p178 := eq_true p178
    replace q178 := eq_true q178
    have p179 : 0 ≤ (0 : Int) := (by omega)
    have q179 : 0 < (l0_0.length : Int) := of_decide_eq_true (by first | (with_reducible assumption) | assumption)
    obtain ⟨ad179, e179, hx179_0⟩ := Kd.at_int HR0_0.out 0 p179 q179
    have hw179_0 := hx179_0
    (try rw [show ((0 : Int)).toNat = 0 from rfl] at hw179_0)
    (try rw [show 0 * 1 = 0 from rfl] at hw179_0)
    (try rw [Addr.add_zero'] at hw179_0)
    cases e179
    have qi179 : (0 < l0_0.length) = True := eq_true (by omega)
    (try rw [show ((0 : Int)).toNat = 0 from rfl] at hx179_0)
    (try rw [Addr.add_zero'] at hx179_0)
    replace hx179_0 := (HB.out.cell (World.block_lt_of_cell? w _ hx179_0)).trans hx179_0
    replace p179 := eq_true p179
    replace q179 := eq_true q179
    refine start_ (n := 33) (S := fun w' => w'.cell? ⟨gb172, 0, none⟩ = some (.slice (some ad179) l0_0.length c0_0) ∧ w'.cell? ⟨gb172, 1, none⟩ = some (.slice A0_1 l0_1.length c0_1) ∧ w'.cell? ⟨gb173, 0, none⟩ = some (.slice (some ad178) l1_0.length c1_0) ∧ w'.cell? ⟨gb173, 1, none⟩ = some (.slice A1_1 l1_1.length c1_1) ∧ w'.cell? ⟨ad178.block, ad178.off + 1, none⟩ = some (.int .i64 (rd l1_0 1)) ∧ w'.cell? ad179 = some (.int .i64 (rd l0_0 0))) (ds := []) #[false, false, false, false, false, false, false, false, false, false, false, false, false, false, false, false, false, false, false, false, false, false, false, false, false, false, false, false, false, false, false, false, false] (by kernel_rfl) rfl rfl ⟨(blk_cell BK172.out 0).trans rfl, (blk_cell BK172.out 1).trans rfl, (blk_cell BK173.out 0).trans rfl, (blk_cell BK173.out 1).trans rfl, ((HB.out.cell (World.block_lt_of_cell? w _ hw178_0)).trans hw178_0), ((HB.out.cell (World.block_lt_of_cell? w _ hw179_0)).trans hw179_0)⟩ (fun hHeld => ?_); refine with_tabW conv_Row.tab3 conv_Row.bits3 (fun HT_ HW_ => ?_)
    generalize wc.drew = w126 at BK172 BK173 BK174 HB hx178_0 hx179_0 hHeld ⊢
    refine yp_ ?_ 0 36
    refine yt6_ ?_ 1 37
    refine yp_ ?_ 2 38
    refine yp_ ?_ 3 39
    refine yp_ ?_ 4 40
    refine yp_ ?_ 5 41
    refine yt6_ ?_ 6 42
    refine yp_ ?_ 7 43
    refine yp_ ?_ 8 44
    refine yp_ ?_ 9 45
    refine yp_ ?_ 10 46
    refine yp_ ?_ 11 47
    refine yp_ ?_ 15 51
    refine yt6_ ?_ 12 48
    refine yp_ ?_ 13 49
    refine yt6_ ?_ 14 50
    refine yt6_ ?_ 16 52
    refine yp_ ?_ 17 53
    refine yt6_ ?_ 18 54
    refine yp_ ?_ 19 55
    refine yp_ ?_ 20 56
    refine yp_ ?_ 21 57
    refine yu_ ?_ 22 58
    refine yu_ ?_ 23 59
    refine yu_ ?_ 24 60
    refine yu_ ?_ 25 61
    refine yu_ ?_ 26 62
    refine yu_ ?_ 27 63
    refine yu_ ?_ 28 64
    refine yu_ ?_ 29 65
    refine yu_ ?_ 30 66
    refine yp_ ?_ 31 67
    refine yp_ ?_ 32 35
    refine done_ (done_of HT_.out (by kernel_rfl)) ?_
    have hnb127 := NB174_172.out
    have hnc127 := NB172_174.out
    have hnb128 := NB174_173.out
    have hnc128 := NB173_174.out
    have hcz129_0 := zx_ (v := .slice none 0 0) BK174 0
    have hcz129_1 := zx_ (v := .slice none 0 0) BK174 1
    have hfz129_0 := blk_frozen BK174.out 0
    have hfz129_1 := blk_frozen BK174.out 1
    try go_wp2
    refine bodyPost_ret (results_ct rfl _ _ gb174 25 #[.slice none 0 0, .slice none 0 0] (0, 0) _ rfl (zo2_ BK174) Try.underlying25 rfl (by kernel_rfl)) rfl ?_
    exact ⟨_, _, z0_, z2_, z2_, zw3_ HB GE172 GE173 GE174⟩
   rw [if_pos c39] at H
   have c39b0 : ((rd l1_0 1) == (rd l0_0 0)) = true := beq_iff_eq.mpr c39
   have c39b1 : ((rd l1_0 1) != (rd l0_0 0)) = false := bne_eq_false_iff_eq.mpr c39
   clear c39
   by_cases c40 : 2 < (l1_0.length : Int)
   rotate_left
   ·rw [if_neg c40] at H
    exact absurd H (by simp)
   rw [if_pos c40] at H
   have c40b0 : decide (2 < (l1_0.length : Int)) = true := decide_eq_true c40
   have c40b1 : decide (2 < l1_0.length) = true := decide_eq_true (by omega)
   clear c40
   by_cases c41 : 1 < (l0_0.length : Int)
   rotate_left
   ·rw [if_neg c41] at H
    exact absurd H (by simp)
   rw [if_pos c41] at H
   have c41b0 : decide (1 < (l0_0.length : Int)) = true := decide_eq_true c41
   have c41b1 : decide (1 < l0_0.length) = true := decide_eq_true (by omega)
   clear c41
   by_cases c42 : (rd l1_0 2) > (rd l0_0 1)
   ·rw [if_pos c42] at H
    have c42b0 : decide ((rd l0_0 1) < (rd l1_0 2)) = true := decide_eq_true c42
    clear c42
    simp only [Option.some.injEq, Prod.mk.injEq] at H
    obtain ⟨rfl, rfl, rfl⟩ := H
    try go_wp2
    replace BK172 := Aside0.mk (blk_drew BK172.out)
    replace BK173 := Aside0.mk (blk_drew BK173.out)
    replace BK174 := Aside0.mk (blk_drew BK174.out)
    replace HB := Aside0.mk (below_drew1 HB.out)
    have p178 : 0 ≤ (1 : Int) := (by omega)
    have q178 : 1 < (l1_0.length : Int) := of_decide_eq_true (by first | (with_reducible assumption) | assumption)
    obtain ⟨ad178, e178, hx178_0⟩ := Kd.at_int HR1_0.out 1 p178 q178
    have hw178_0 := hx178_0
    (try rw [show ((1 : Int)).toNat = 1 from rfl] at hw178_0)
    (try rw [show 1 * 1 = 1 from rfl] at hw178_0)
    (try simp only [Nat.reduceMul, Nat.reduceEqDiff, Go.Addr.add, ↓reduceIte] at hw178_0)
    cases e178
    (try simp only [show (1 : Int).toNat = 1 from rfl, Nat.reduceMul, Nat.reduceEqDiff, Go.Addr.add, ↓reduceIte] at hx178_0)
    have qi178 : (1 < l1_0.length) = True := eq_true (by omega)
    (try rw [show ((1 : Int)).toNat = 1 from rfl] at hx178_0)
    replace hx178_0 := (HB.out.cell (World.block_lt_of_cell? w _ hx178_0)).trans hx178_0
    replace p178 := eq_true p178
    replace q178 := eq_true q178
    have p179 : 0 ≤ (0 : Int) := (by omega)
    have q179 : 0 < (l0_0.length : Int) := of_decide_eq_true (by first | (with_reducible assumption) | assumption)
    obtain ⟨ad179, e179, hx179_0⟩ := Kd.at_int HR0_0.out 0 p179 q179
    have hw179_0 := hx179_0
    (try rw [show ((0 : Int)).toNat = 0 from rfl] at hw179_0)
    (try rw [show 0 * 1 = 0 from rfl] at hw179_0)
    (try rw [Addr.add_zero'] at hw179_0)
    cases e179
    have qi179 : (0 < l0_0.length) = True := eq_true (by omega)
    (try rw [show ((0 : Int)).toNat = 0 from rfl] at hx179_0)
    (try rw [Addr.add_zero'] at hx179_0)
    replace hx179_0 := (HB.out.cell (World.block_lt_of_cell? w _ hx179_0)).trans hx179_0
    replace p179 := eq_true p179
    replace q179 := eq_true q179
    have p180 : 0 ≤ (2 : Int) := (by omega)
    have q180 : 2 < (l1_0.length : Int) := of_decide_eq_true (by first | (with_reducible assumption) | assumption)
    obtain ⟨ad180, e180, hx180_0⟩ := Kd.at_int HR1_0.out 2 p180 q180
    have hw180_0 := hx180_0
    (try rw [show ((2 : Int)).toNat = 2 from rfl] at hw180_0)
    (try rw [show 2 * 1 = 2 from rfl] at hw180_0)
    (try simp only [Nat.reduceMul, Nat.reduceEqDiff, Go.Addr.add, ↓reduceIte] at hw180_0)
    obtain rfl : ad178 = ad180 := (by injection e180)
    (try simp only [show (2 : Int).toNat = 2 from rfl, Nat.reduceMul, Nat.reduceEqDiff, Go.Addr.add, ↓reduceIte] at hx180_0)
    have qi180 : (2 < l1_0.length) = True := eq_true (by omega)
    (try rw [show ((2 : Int)).toNat = 2 from rfl] at hx180_0)
    replace hx180_0 := (HB.out.cell (World.block_lt_of_cell? w _ hx180_0)).trans hx180_0
    replace p180 := eq_true p180
    replace q180 := eq_true q180
    have p181 : 0 ≤ (1 : Int) := (by omega)
    have q181 : 1 < (l0_0.length : Int) := of_decide_eq_true (by first | (with_reducible assumption) | assumption)
    obtain ⟨ad181, e181, hx181_0⟩ := Kd.at_int HR0_0.out 1 p181 q181
    have hw181_0 := hx181_0
    (try rw [show ((1 : Int)).toNat = 1 from rfl] at hw181_0)
    (try rw [show 1 * 1 = 1 from rfl] at hw181_0)
    (try simp only [Nat.reduceMul, Nat.reduceEqDiff, Go.Addr.add, ↓reduceIte] at hw181_0)
    obtain rfl : ad179 = ad181 := (by injection e181)
    (try simp only [show (1 : Int).toNat = 1 from rfl, Nat.reduceMul, Nat.reduceEqDiff, Go.Addr.add, ↓reduceIte] at hx181_0)
    have qi181 : (1 < l0_0.length) = True := eq_true (by omega)
    (try rw [show ((1 : Int)).toNat = 1 from rfl] at hx181_0)
    replace hx181_0 := (HB.out.cell (World.block_lt_of_cell? w _ hx181_0)).trans hx181_0
    replace p181 := eq_true p181
    replace q181 := eq_true q181
    refine start_ (n := 33) (S := fun w' => w'.cell? ⟨gb172, 0, none⟩ = some (.slice (some ad179) l0_0.length c0_0) ∧ w'.cell? ⟨gb172, 1, none⟩ = some (.slice A0_1 l0_1.length c0_1) ∧ w'.cell? ⟨gb173, 0, none⟩ = some (.slice (some ad178) l1_0.length c1_0) ∧ w'.cell? ⟨gb173, 1, none⟩ = some (.slice A1_1 l1_1.length c1_1) ∧ w'.cell? ⟨ad178.block, ad178.off + 1, none⟩ = some (.int .i64 (rd l1_0 1)) ∧ w'.cell? ad179 = some (.int .i64 (rd l0_0 0)) ∧ w'.cell? ⟨ad178.block, ad178.off + 2, none⟩ = some (.int .i64 (rd l1_0 2)) ∧ w'.cell? ⟨ad179.block, ad179.off + 1, none⟩ = some (.int .i64 (rd l0_0 1))) (ds := []) #[false, false, false, false, false, false, false, false, false, false, false, false, false, false, false, false, false, false, false, false, false, false, false, false, false, false, false, false, false, false, false, false, false] (by kernel_rfl) rfl rfl ⟨(blk_cell BK172.out 0).trans rfl, (blk_cell BK172.out 1).trans rfl, (blk_cell BK173.out 0).trans rfl, (blk_cell BK173.out 1).trans rfl, ((HB.out.cell (World.block_lt_of_cell? w _ hw178_0)).trans hw178_0), ((HB.out.cell (World.block_lt_of_cell? w _ hw179_0)).trans hw179_0), ((HB.out.cell (World.block_lt_of_cell? w _ hw180_0)).trans hw180_0), ((HB.out.cell (World.block_lt_of_cell? w _ hw181_0)).trans hw181_0)⟩ (fun hHeld => ?_); refine with_tabW conv_Row.tab3 conv_Row.bits3 (fun HT_ HW_ => ?_)
    generalize wc.drew = w43 at BK172 BK173 BK174 HB hx178_0 hx179_0 hx180_0 hx181_0 hHeld ⊢
    refine yp_ ?_ 0 36
    refine yt8_ ?_ 1 37
    refine yp_ ?_ 2 38
    refine yp_ ?_ 3 39
    refine yp_ ?_ 4 40
    refine yp_ ?_ 5 41
    refine yt8_ ?_ 6 42
    refine yp_ ?_ 7 43
    refine yp_ ?_ 8 44
    refine yp_ ?_ 9 45
    refine yp_ ?_ 10 46
    refine yp_ ?_ 11 47
    refine yp_ ?_ 15 51
    refine yt8_ ?_ 12 48
    refine yp_ ?_ 13 49
    refine yt8_ ?_ 14 50
    refine yt8_ ?_ 16 52
    refine yp_ ?_ 17 53
    refine yt8_ ?_ 18 54
    refine yp_ ?_ 19 55
    refine yp_ ?_ 20 56
    refine yp_ ?_ 21 57
    refine yp_ ?_ 22 58
    refine yp_ ?_ 26 62
    refine yt8_ ?_ 23 59
    refine yp_ ?_ 24 60
    refine yt8_ ?_ 25 61
    refine yt8_ ?_ 27 63
    refine yp_ ?_ 28 64
    refine yt8_ ?_ 29 65
    refine yp_ ?_ 30 66
    refine yp_ ?_ 31 67
    refine yp_ ?_ 32 35
    refine done_ (done_of HT_.out (by kernel_rfl)) ?_
    have hnb44 := NB174_172.out
    have hnc44 := NB172_174.out
    have hnb45 := NB174_173.out
    have hnc45 := NB173_174.out
    have hcz46_0 := zx_ (v := .slice none 0 0) BK174 0
    have hcz46_1 := zx_ (v := .slice none 0 0) BK174 1
    have hfz46_0 := blk_frozen BK174.out 0
    have hfz46_1 := blk_frozen BK174.out 1
    try go_wp2
    refine bodyPost_ret (results_ct rfl _ _ gb174 25 #[.slice none 0 0, .slice none 0 0] (0, 0) _ rfl (zo2_ BK174) Try.underlying25 rfl (by kernel_rfl)) rfl ?_
    exact ⟨_, _, z0_, z2_, z2_, zw3_ HB GE172 GE173 GE174⟩
   rw [if_neg c42] at H
   have c42b0 : decide ((rd l0_0 1) < (rd l1_0 2)) = false := decide_eq_false c42
   clear c42
   replace H := Option.bind_eq_some_iff.mp H
   obtain ⟨t185, A470, H⟩ := H
   (try dsimp only at H)
   have A47 := Aside0.mk A470
   clear A470
   by_cases c48 : 0 < (l1_0.length : Int)
   rotate_left
   ·rw [if_neg c48] at H
    exact absurd H (by simp)
   rw [if_pos c48] at H
   have c48b0 : decide (0 < (l1_0.length : Int)) = true := decide_eq_true c48
   have c48b1 : decide (0 < l1_0.length) = true := decide_eq_true (by omega)
   clear c48
   obtain ⟨y187, hy187⟩ : ∃ y_ : List Int, y_ = (([rd l1_0 0, t185] : List Int)) := ⟨_, rfl⟩
   replace H : ((conv_of.f kj3 y187).bind fun bt190 => (if bt190.2.2 = 0 then (conv_Row.l0 kj3 a2 (rd l0_0 0) (rd l0_0 1) (rd l1_0 2) t185 (bt190.2.1.length : Int) 0 l0_0 l0_1 l1_0 l1_1 bt190.1 bt190.2.1) else (some (([] : List Int), ([] : List Int), bt190.2.2)))) = some (r1, r2, r3) := by first | (rw [hy187]; with_reducible exact H) | (have H2_ := (Option.bind_some _ _).symm.trans H; rw [hy187]; with_reducible exact H2_) | (have H2_ := (Option.bind_some _ _).symm.trans H; with_reducible exact H2_) | with_reducible exact H | (rw [hy187]; exact H) | exact H
   have Ny187 := Aside0.mk hy187
   clear hy187
   replace H := Option.bind_eq_some_iff.mp H
   obtain ⟨⟨t190, t193, t196⟩, A490, H⟩ := H
   (try dsimp only at H)
   have A49 := Aside0.mk A490
   clear A490
   by_cases c50 : t196 = 0
   rotate_left
   ·rw [if_neg c50] at H
    have c50b0 : (t196 == 0) = false := beq_eq_false_iff_ne.mpr c50
    have c50b1 : (t196 != 0) = true := bne_iff_ne.mpr c50
    simp only [Option.some.injEq, Prod.mk.injEq] at H
    obtain ⟨rfl, rfl, rfl⟩ := H
    try go_wp2
    replace BK172 := Aside0.mk (blk_drew BK172.out)
    replace BK173 := Aside0.mk (blk_drew BK173.out)
    replace BK174 := Aside0.mk (blk_drew BK174.out)
    replace HB := Aside0.mk (below_drew1 HB.out)
    have p178 : 0 ≤ (1 : Int) := (by omega)
    have q178 : 1 < (l1_0.length : Int) := of_decide_eq_true (by first | (with_reducible assumption) | assumption)
    obtain ⟨ad178, e178, hx178_0⟩ := Kd.at_int HR1_0.out 1 p178 q178
    have hw178_0 := hx178_0
    (try rw [show ((1 : Int)).toNat = 1 from rfl] at hw178_0)
    (try rw [show 1 * 1 = 1 from rfl] at hw178_0)
    (try simp only [Nat.reduceMul, Nat.reduceEqDiff, Go.Addr.add, ↓reduceIte] at hw178_0)
    cases e178
    (try simp only [show (1 : Int).toNat = 1 from rfl, Nat.reduceMul, Nat.reduceEqDiff, Go.Addr.add, ↓reduceIte] at hx178_0)
    have qi178 : (1 < l1_0.length) = True := eq_true (by omega)
    (try rw [show ((1 : Int)).toNat = 1 from rfl] at hx178_0)
    replace hx178_0 := (HB.out.cell (World.block_lt_of_cell? w _ hx178_0)).trans hx178_0
    replace p178 := eq_true p178
    replace q178 := eq_true q178
    have p179 : 0 ≤ (0 : Int) := (by omega)
    have q179 : 0 < (l0_0.length : Int) := of_decide_eq_true (by first | (with_reducible assumption) | assumption)
    obtain ⟨ad179, e179, hx179_0⟩ := Kd.at_int HR0_0.out 0 p179 q179
    have hw179_0 := hx179_0
    (try rw [show ((0 : Int)).toNat = 0 from rfl] at hw179_0)
    (try rw [show 0 * 1 = 0 from rfl] at hw179_0)
    (try rw [Addr.add_zero'] at hw179_0)
    cases e179
    have qi179 : (0 < l0_0.length) = True := eq_true (by omega)
    (try rw [show ((0 : Int)).toNat = 0 from rfl] at hx179_0)
    (try rw [Addr.add_zero'] at hx179_0)
    replace hx179_0 := (HB.out.cell (World.block_lt_of_cell? w _ hx179_0)).trans hx179_0
    replace p179 := eq_true p179
    replace q179 := eq_true q179
    have p180 : 0 ≤ (2 : Int) := (by omega)
    have q180 : 2 < (l1_0.length : Int) := of_decide_eq_true (by first | (with_reducible assumption) | assumption)
    obtain ⟨ad180, e180, hx180_0⟩ := Kd.at_int HR1_0.out 2 p180 q180
    have hw180_0 := hx180_0
    (try rw [show ((2 : Int)).toNat = 2 from rfl] at hw180_0)
    (try rw [show 2 * 1 = 2 from rfl] at hw180_0)
    (try simp only [Nat.reduceMul, Nat.reduceEqDiff, Go.Addr.add, ↓reduceIte] at hw180_0)
    obtain rfl : ad178 = ad180 := (by injection e180)
    (try simp only [show (2 : Int).toNat = 2 from rfl, Nat.reduceMul, Nat.reduceEqDiff, Go.Addr.add, ↓reduceIte] at hx180_0)
    have qi180 : (2 < l1_0.length) = True := eq_true (by omega)
    (try rw [show ((2 : Int)).toNat = 2 from rfl] at hx180_0)
    replace hx180_0 := (HB.out.cell (World.block_lt_of_cell? w _ hx180_0)).trans hx180_0
    replace p180 := eq_true p180
    replace q180 := eq_true q180
    have p181 : 0 ≤ (1 : Int) := (by omega)
    have q181 : 1 < (l0_0.length : Int) := of_decide_eq_true (by first | (with_reducible assumption) | assumption)
    obtain ⟨ad181, e181, hx181_0⟩ := Kd.at_int HR0_0.out 1 p181 q181
    have hw181_0 := hx181_0
    (try rw [show ((1 : Int)).toNat = 1 from rfl] at hw181_0)
    (try rw [show 1 * 1 = 1 from rfl] at hw181_0)
    (try simp only [Nat.reduceMul, Nat.reduceEqDiff, Go.Addr.add, ↓reduceIte] at hw181_0)
    obtain rfl : ad179 = ad181 := (by injection e181)
    (try simp only [show (1 : Int).toNat = 1 from rfl, Nat.reduceMul, Nat.reduceEqDiff, Go.Addr.add, ↓reduceIte] at hx181_0)
    have qi181 : (1 < l0_0.length) = True := eq_true (by omega)
    (try rw [show ((1 : Int)).toNat = 1 from rfl] at hx181_0)
    replace hx181_0 := (HB.out.cell (World.block_lt_of_cell? w _ hx181_0)).trans hx181_0
    replace p181 := eq_true p181
    replace q181 := eq_true q181
    refine start_ (n := 33) (S := fun w' => w'.cell? ⟨gb172, 0, none⟩ = some (.slice (some ad179) l0_0.length c0_0) ∧ w'.cell? ⟨gb172, 1, none⟩ = some (.slice A0_1 l0_1.length c0_1) ∧ w'.cell? ⟨gb173, 0, none⟩ = some (.slice (some ad178) l1_0.length c1_0) ∧ w'.cell? ⟨gb173, 1, none⟩ = some (.slice A1_1 l1_1.length c1_1) ∧ w'.cell? ⟨ad178.block, ad178.off + 1, none⟩ = some (.int .i64 (rd l1_0 1)) ∧ w'.cell? ad179 = some (.int .i64 (rd l0_0 0)) ∧ w'.cell? ⟨ad178.block, ad178.off + 2, none⟩ = some (.int .i64 (rd l1_0 2)) ∧ w'.cell? ⟨ad179.block, ad179.off + 1, none⟩ = some (.int .i64 (rd l0_0 1))) (ds := []) #[false, false, false, false, false, false, false, false, false, false, false, false, false, false, false, false, false, false, false, false, false, false, false, false, false, false, false, false, false, false, false, false, false] (by kernel_rfl) rfl rfl ⟨(blk_cell BK172.out 0).trans rfl, (blk_cell BK172.out 1).trans rfl, (blk_cell BK173.out 0).trans rfl, (blk_cell BK173.out 1).trans rfl, ((HB.out.cell (World.block_lt_of_cell? w _ hw178_0)).trans hw178_0), ((HB.out.cell (World.block_lt_of_cell? w _ hw179_0)).trans hw179_0), ((HB.out.cell (World.block_lt_of_cell? w _ hw180_0)).trans hw180_0), ((HB.out.cell (World.block_lt_of_cell? w _ hw181_0)).trans hw181_0)⟩ (fun hHeld => ?_); refine with_tabW conv_Row.tab3 conv_Row.bits3 (fun HT_ HW_ => ?_)
    generalize wc.drew = w108 at BK172 BK173 BK174 HB hx178_0 hx179_0 hx180_0 hx181_0 hHeld ⊢
    refine yp_ ?_ 0 36
    refine yt8_ ?_ 1 37
    refine yp_ ?_ 2 38
    refine yp_ ?_ 3 39
    refine yp_ ?_ 4 40
    refine yp_ ?_ 5 41
    refine yt8_ ?_ 6 42
    refine yp_ ?_ 7 43
    refine yp_ ?_ 8 44
    refine yp_ ?_ 9 45
    refine yp_ ?_ 10 46
    refine yp_ ?_ 11 47
    refine yp_ ?_ 15 51
    refine yt8_ ?_ 12 48
    refine yp_ ?_ 13 49
    refine yt8_ ?_ 14 50
    refine yt8_ ?_ 16 52
    refine yp_ ?_ 17 53
    refine yt8_ ?_ 18 54
    refine yp_ ?_ 19 55
    refine yp_ ?_ 20 56
    refine yp_ ?_ 21 57
    refine yp_ ?_ 22 58
    refine yp_ ?_ 26 62
    refine yt8_ ?_ 23 59
    refine yp_ ?_ 24 60
    refine yt8_ ?_ 25 61
    refine yt8_ ?_ 27 63
    refine yp_ ?_ 28 64
    refine yt8_ ?_ 29 65
    refine yp_ ?_ 30 66
    refine yp_ ?_ 31 67
    refine yp_ ?_ 32 35
    refine done_ (done_of HT_.out (by kernel_rfl)) ?_
    try go_wp2
    replace BK172 := Aside0.mk (blk_drew BK172.out)
    replace BK173 := Aside0.mk (blk_drew BK173.out)
    replace BK174 := Aside0.mk (blk_drew BK174.out)
    replace HB := Aside0.mk (below_drew1 HB.out)
    have p182 : 0 ≤ (0 : Int) := (by omega)
    have q182 : 0 < (l0_0.length : Int) := of_decide_eq_true (by first | (with_reducible assumption) | assumption)
    obtain ⟨ad182, e182, hx182_0⟩ := Kd.at_int HR0_0.out 0 p182 q182
    have hw182_0 := hx182_0
    (try rw [show ((0 : Int)).toNat = 0 from rfl] at hw182_0)
    (try rw [show 0 * 1 = 0 from rfl] at hw182_0)
    (try rw [Addr.add_zero'] at hw182_0)
    obtain rfl : ad179 = ad182 := (by injection e182)
    have qi182 : (0 < l0_0.length) = True := eq_true (by omega)
    (try rw [show ((0 : Int)).toNat = 0 from rfl] at hx182_0)
    (try rw [Addr.add_zero'] at hx182_0)
    replace hx182_0 := (HB.out.cell (World.block_lt_of_cell? w _ hx182_0)).trans hx182_0
    replace p182 := eq_true p182
    replace q182 := eq_true q182
    have p183 : 0 ≤ (1 : Int) := (by omega)
    have q183 : 1 < (l0_0.length : Int) := of_decide_eq_true (by first | (with_reducible assumption) | assumption)
    obtain ⟨ad183, e183, hx183_0⟩ := Kd.at_int HR0_0.out 1 p183 q183
    have hw183_0 := hx183_0
    (try rw [show ((1 : Int)).toNat = 1 from rfl] at hw183_0)
    (try rw [show 1 * 1 = 1 from rfl] at hw183_0)
    (try simp only [Nat.reduceMul, Nat.reduceEqDiff, Go.Addr.add, ↓reduceIte] at hw183_0)
    obtain rfl : ad179 = ad183 := (by injection e183)
    (try simp only [show (1 : Int).toNat = 1 from rfl, Nat.reduceMul, Nat.reduceEqDiff, Go.Addr.add, ↓reduceIte] at hx183_0)
    have qi183 : (1 < l0_0.length) = True := eq_true (by omega)
    (try rw [show ((1 : Int)).toNat = 1 from rfl] at hx183_0)
    replace hx183_0 := (HB.out.cell (World.block_lt_of_cell? w _ hx183_0)).trans hx183_0
    replace p183 := eq_true p183
    replace q183 := eq_true q183
    have p184 : 0 ≤ (2 : Int) := (by omega)
    have q184 : 2 < (l1_0.length : Int) := of_decide_eq_true (by first | (with_reducible assumption) | assumption)
    obtain ⟨ad184, e184, hx184_0⟩ := Kd.at_int HR1_0.out 2 p184 q184
    have hw184_0 := hx184_0
    (try rw [show ((2 : Int)).toNat = 2 from rfl] at hw184_0)
    (try rw [show 2 * 1 = 2 from rfl] at hw184_0)
    (try simp only [Nat.reduceMul, Nat.reduceEqDiff, Go.Addr.add, ↓reduceIte] at hw184_0)
    obtain rfl : ad178 = ad184 := (by injection e184)
    (try simp only [show (2 : Int).toNat = 2 from rfl, Nat.reduceMul, Nat.reduceEqDiff, Go.Addr.add, ↓reduceIte] at hx184_0)
    have qi184 : (2 < l1_0.length) = True := eq_true (by omega)
    (try rw [show ((2 : Int)).toNat = 2 from rfl] at hx184_0)
    replace hx184_0 := (HB.out.cell (World.block_lt_of_cell? w _ hx184_0)).trans hx184_0
    replace p184 := eq_true p184
    replace q184 := eq_true q184
    refine start_ (n := 15) (S := fun w' => w'.cell? ⟨gb172, 0, none⟩ = some (.slice (some ad179) l0_0.length c0_0) ∧ w'.cell? ⟨gb172, 1, none⟩ = some (.slice A0_1 l0_1.length c0_1) ∧ w'.cell? ⟨gb173, 0, none⟩ = some (.slice (some ad178) l1_0.length c1_0) ∧ w'.cell? ⟨gb173, 1, none⟩ = some (.slice A1_1 l1_1.length c1_1) ∧ w'.cell? ad179 = some (.int .i64 (rd l0_0 0)) ∧ w'.cell? ⟨ad179.block, ad179.off + 1, none⟩ = some (.int .i64 (rd l0_0 1)) ∧ w'.cell? ⟨ad178.block, ad178.off + 2, none⟩ = some (.int .i64 (rd l1_0 2))) (ds := []) #[false, false, false, false, false, false, false, false, false, false, false, false, false, false, false] (by kernel_rfl) rfl rfl ⟨(blk_cell BK172.out 0).trans rfl, (blk_cell BK172.out 1).trans rfl, (blk_cell BK173.out 0).trans rfl, (blk_cell BK173.out 1).trans rfl, ((HB.out.cell (World.block_lt_of_cell? w _ hw182_0)).trans hw182_0), ((HB.out.cell (World.block_lt_of_cell? w _ hw183_0)).trans hw183_0), ((HB.out.cell (World.block_lt_of_cell? w _ hw184_0)).trans hw184_0)⟩ (fun hHeld => ?_); refine with_tabW conv_Row.tab5 conv_Row.bits5 (fun HT_ HW_ => ?_)
    generalize w108.drew = w109 at BK172 BK173 BK174 HB hx182_0 hx183_0 hx184_0 hHeld ⊢
    refine yp_ ?_ 0 69
    refine yp_ ?_ 4 73
    refine yp_ ?_ 8 77
    refine yt7_ ?_ 1 70
    refine yp_ ?_ 2 71
    refine yt7_ ?_ 3 72
    refine yp_ ?_ 12 8
    refine yt7_ ?_ 5 74
    refine yp_ ?_ 6 75
    refine yt7_ ?_ 7 76
    refine yp_ ?_ 13 9
    refine yt7_ ?_ 9 78
    refine yp_ ?_ 10 79
    refine yt7_ ?_ 11 80
    refine yp_ ?_ 14 10
    refine done_ (done_of HT_.out (by kernel_rfl)) ?_
    try go_wp2_with (first | ((with_reducible refine gate_callee (f := 28) rfl ?_); refine zg_ (some 84) Try.func28 #[.int .i64 (rd l0_0 1), .int .i64 (rd l1_0 2), .int .i64 a2] (h := ?_); (with_reducible refine (conv_windows.calls (rd l0_0 1) (rd l1_0 2) a2 t185 _ A47.out).mono ?_); rintro e w' ⟨rfl, ⟨nd, rfl⟩⟩; refine ⟨_, rfl, ?_⟩; (try (rw [drewN_self w109]; generalize hq_ : World.drewN w109 _ = w109; have n0_ : Aside0 (w109.heap[gb172]? = some (.cells #[.slice (some ad179) l0_0.length c0_0, .slice A0_1 l0_1.length c0_1] 25 (0, 0))) := ⟨by rw [← hq_]; exact (zb_ BK172)⟩; have n1_ : Aside0 (w109.heap[gb173]? = some (.cells #[.slice (some ad178) l1_0.length c1_0, .slice A1_1 l1_1.length c1_1] 25 (0, 0))) := ⟨by rw [← hq_]; exact (zb_ BK173)⟩; have n2_ : Aside0 (w109.heap[gb174]? = some (.cells #[.slice none 0 0, .slice none 0 0] 25 (0, 0))) := ⟨by rw [← hq_]; exact (zb_ BK174)⟩; have n3_ : Aside0 (Below w.heap.size w w109) := ⟨by rw [← hq_]; exact (zw3_ HB GE172 GE173 GE174)⟩; clear BK172 BK173 BK174 HB hq_; have BK172 := n0_; have BK173 := n1_; have BK174 := n2_; have HB := n3_; clear n0_ n1_ n2_ n3_)); have hnb110 := NB173_172.out; have hnc110 := NB172_173.out; have hnb111 := NB173_174.out; have hnc111 := NB174_173.out; have hcz112_0 := zx_ (v := .slice (some ad178) l1_0.length c1_0) BK173 0; have hcz112_1 := zx_ (v := .slice A1_1 l1_1.length c1_1) BK173 1; have hfz112_0 := blk_frozen BK173.out 0; have hfz112_1 := blk_frozen BK173.out 1; have p186 : 0 ≤ (0 : Int) := (by omega); have q186 : 0 < (l1_0.length : Int) := of_decide_eq_true (by first | (with_reducible assumption) | assumption); obtain ⟨ad186, e186, hx186_0⟩ := Kd.at_int HR1_0.out 0 p186 q186; obtain rfl : ad178 = ad186 := (by injection e186); have qi186 : (0 < l1_0.length) = True := eq_true (by omega); (try rw [show ((0 : Int)).toNat = 0 from rfl] at hx186_0); (try rw [Addr.add_zero'] at hx186_0); replace hx186_0 := (HB.out.cell (World.block_lt_of_cell? w _ hx186_0)).trans hx186_0; replace p186 := eq_true p186; replace q186 := eq_true q186) | ((with_reducible refine gate_dst (N := 91) rfl ?_); (try (refine gate_guard (by rfl) ?_; dsimp only)); refine Kd.R_lit (Kd.int .i64) _ 3 ?hg (N := 91) ?hd (xs := ([rd l1_0 0, t185] : List Int)) (inner := [.int .i64 (rd l1_0 0), .int .i64 t185]) (ok := fun _ => True) (okp := fun _ => True) ?hr ?hp (fun _ hk => hk) trivial (Below.refl _ _) (Nat.le_refl _) (by simp) ?_; (case hd => rfl); (case hg => rfl); (case hr => first | (go_simp; done) | (go_simp; rfl)); (case hp => exact (Reps.one (show Kd.M (Kd.int .i64) _ _ _ (rd l1_0 0) [.int .i64 (rd l1_0 0)] from rfl) (Reps.one (show Kd.M (Kd.int .i64) _ _ _ t185 [.int .i64 t185] from rfl) (Reps.none _ _)))); intro v188 w113 ho114 hb hg_ hnew_; clear hg_ hnew_; (first | rw [← Ny187.out] at ho114 | (simp only [Int.reduceToNat] at ho114; rw [← Ny187.out] at ho114)); have HO189 := Aside0.mk (Kd.R_lower ho114 (below_size (zw3_ HB GE172 GE173 GE174))); replace BK172 := za_ BK172 hb; replace BK173 := za_ BK173 hb; replace BK174 := za_ BK174 hb; replace HB := Aside0.mk (below_step (zw3_ HB GE172 GE173 GE174) hb); clear hb ho114; obtain ⟨Ao115, co115, eo115⟩ := Kd.R_slice HO189.out; subst eo115) | ((with_reducible refine gate_callee (f := 29) rfl ?_); refine zg_ (some 92) Try.func29 #[.slice Ao115 y187.length co115] (h := ?_); (with_reducible refine (conv_of.calls kj3 _ _ y187 t190 t193 t196 _ ?side1 ?side2 A49.out).mono ?_); (case side1 => exact zk_ ((Kd.R_reads' HO189.out).2.2)); (case side2 => exact (Kd.R_reads' HO189.out).2.1); rintro e w116 ⟨v191, v194, rfl, ho0, ho1, hb⟩; refine ⟨_, rfl, ?_⟩; have HO192 := Aside0.mk (Kd.R_lower (Kd.R_new' ho0 (Kd.R_lt (zr_ HO189.out))) (below_size (zw3_ HB GE172 GE173 GE174))); replace HO189 := ze_ HO189 ho0 hb; have HO195 := Aside0.mk (Kd.R_lower ho1 (below_size (zw3_ HB GE172 GE173 GE174))); replace BK172 := za_ BK172 hb; replace BK173 := za_ BK173 hb; replace BK174 := za_ BK174 hb; replace HB := Aside0.mk (below_step (zw3_ HB GE172 GE173 GE174) hb); (try clear hb); (try clear ho0); (try clear ho1)) | ((with_reducible refine gate_dst (N := 12) rfl ?_); (try (refine gate_guard (by rfl) ?_; dsimp only)); refine box_event ?hg (N := 12) ?hd (cs := #[.slice none 0 0, .slice none 0 0]) (t := 25) ?hr ?_; (case hd => rfl); (case hg => rfl); (case hr => first | (go_simp; done) | (go_simp; rfl)); intro gb197 hg w117 hbox hb; replace HO189 := zy_ HO189 hb; replace HO192 := zy_ HO192 hb; replace HO195 := zy_ HO195 hb; have BK197 := Aside0.mk (hbox); have GW197 := Aside0.mk (zs_ hg (zw3_ HB GE172 GE173 GE174)); have GE197 := Aside0.mk (zs_ hg (zw3_ HB GE172 GE173 GE174)); replace HB := Aside0.mk (below_step (zw3_ HB GE172 GE173 GE174) hb); have NB172_197 := Aside0.mk (zn_ hg BK172); have NB197_172 := Aside0.mk (zm_ hg BK172); replace BK172 := za_ BK172 hb; have NB173_197 := Aside0.mk (zn_ hg BK173); have NB197_173 := Aside0.mk (zm_ hg BK173); replace BK173 := za_ BK173 hb; have NB174_197 := Aside0.mk (zn_ hg BK174); have NB197_174 := Aside0.mk (zm_ hg BK174); replace BK174 := za_ BK174 hb; clear hb hbox hg; obtain ⟨Ao118, co118, eo118⟩ := Kd.R_slice HO192.out; subst eo118; have hnb119 := NB197_172.out; have hnc119 := NB172_197.out; have hnb120 := NB197_173.out; have hnc120 := NB173_197.out; have hnb121 := NB197_174.out; have hnc121 := NB174_197.out; have hcz122_0 := zx_ (v := .slice none 0 0) BK197 0; have hcz122_1 := zx_ (v := .slice none 0 0) BK197 1; have hfz122_0 := blk_frozen BK197.out 0; have hfz122_1 := blk_frozen BK197.out 1; obtain ⟨Ao123, co123, eo123⟩ := Kd.R_slice HO195.out; subst eo123; have hnb124 := NB174_172.out; have hnc124 := NB172_174.out; have hcz125_0 := zx_ (v := .slice none 0 0) BK174 0; have hcz125_1 := zx_ (v := .slice none 0 0) BK174 1; have hfz125_0 := blk_frozen BK174.out 0; have hfz125_1 := blk_frozen BK174.out 1))
    refine bodyPost_ret (results_ct rfl _ _ gb174 25 #[.slice none 0 0, .slice none 0 0] (0, 0) _ rfl (by (with_reducible repeat (first | refine blk_drewN ?_ _ | refine blk_drew ?_ | refine blk_alloc ?_ _)); refine blk_put (cs := #[.slice none 0 0, .slice none 0 0]) ?_ 1 _ rfl; (with_reducible repeat (first | refine blk_drewN ?_ _ | refine blk_drew ?_ | refine blk_alloc ?_ _)); refine blk_put (cs := #[.slice none 0 0, .slice none 0 0]) ?_ 0 _ rfl; (with_reducible repeat (first | refine blk_drewN ?_ _ | refine blk_drew ?_ | refine blk_alloc ?_ _)); refine blk_far ?_ NB174_197.out _; (with_reducible repeat (first | refine blk_drewN ?_ _ | refine blk_drew ?_ | refine blk_alloc ?_ _)); refine blk_far ?_ NB174_197.out _; (with_reducible repeat (first | refine blk_drewN ?_ _ | refine blk_drew ?_ | refine blk_alloc ?_ _)); exact BK174.out) Try.underlying25 rfl (by kernel_rfl)) rfl ?_
    exact ⟨_, _, z0_, z2_, z2_, zw4_ HB GE172 GE173 GE174 GE197⟩
   rw [if_pos c50] at H
   have c50b0 : (t196 == 0) = true := beq_iff_eq.mpr c50
   have c50b1 : (t196 != 0) = false := bne_eq_false_iff_eq.mpr c50
   clear c50
   have H' := Aside0.mk H
   clear H
   try go_wp2
   replace BK172 := Aside0.mk (blk_drew BK172.out)
   replace BK173 := Aside0.mk (blk_drew BK173.out)
   replace BK174 := Aside0.mk (blk_drew BK174.out)
   replace HB := Aside0.mk (below_drew1 HB.out)
   have p178 : 0 ≤ (1 : Int) := (by omega)
   have q178 : 1 < (l1_0.length : Int) := of_decide_eq_true (by first | (with_reducible assumption) | assumption)
   obtain ⟨ad178, e178, hx178_0⟩ := Kd.at_int HR1_0.out 1 p178 q178
   have hw178_0 := hx178_0
   (try rw [show ((1 : Int)).toNat = 1 from rfl] at hw178_0)
   (try rw [show 1 * 1 = 1 from rfl] at hw178_0)
   (try simp only [Nat.reduceMul, Nat.reduceEqDiff, Go.Addr.add, ↓reduceIte] at hw178_0)
   cases e178
   (try simp only [show (1 : Int).toNat = 1 from rfl, Nat.reduceMul, Nat.reduceEqDiff, Go.Addr.add, ↓reduceIte] at hx178_0)
   have qi178 : (1 < l1_0.length) = True := eq_true (by omega)
   (try rw [show ((1 : Int)).toNat = 1 from rfl] at hx178_0)
   replace hx178_0 := (HB.out.cell (World.block_lt_of_cell? w _ hx178_0)).trans hx178_0
   replace p178 := eq_true p178
   replace q178 := eq_true q178
   have p179 : 0 ≤ (0 : Int) := (by omega)
   have q179 : 0 < (l0_0.length : Int) := of_decide_eq_true (by first | (with_reducible assumption) | assumption)
   obtain ⟨ad179, e179, hx179_0⟩ := Kd.at_int HR0_0.out 0 p179 q179
   have hw179_0 := hx179_0
   (try rw [show ((0 : Int)).toNat = 0 from rfl] at hw179_0)
   (try rw [show 0 * 1 = 0 from rfl] at hw179_0)
   (try rw [Addr.add_zero'] at hw179_0)
   cases e179
   have qi179 : (0 < l0_0.length) = True := eq_true (by omega)
   (try rw [show ((0 : Int)).toNat = 0 from rfl] at hx179_0)
   (try rw [Addr.add_zero'] at hx179_0)
   replace hx179_0 := (HB.out.cell (World.block_lt_of_cell? w _ hx179_0)).trans hx179_0
   replace p179 := eq_true p179
   replace q179 := eq_true q179
   have p180 : 0 ≤ (2 : Int) := (by omega)
   have q180 : 2 < (l1_0.length : Int) := of_decide_eq_true (by first | (with_reducible assumption) | assumption)
   obtain ⟨ad180, e180, hx180_0⟩ := Kd.at_int HR1_0.out 2 p180 q180
   have hw180_0 := hx180_0
   (try rw [show ((2 : Int)).toNat = 2 from rfl] at hw180_0)
   (try rw [show 2 * 1 = 2 from rfl] at hw180_0)
   (try simp only [Nat.reduceMul, Nat.reduceEqDiff, Go.Addr.add, ↓reduceIte] at hw180_0)
   obtain rfl : ad178 = ad180 := (by injection e180)
   (try simp only [show (2 : Int).toNat = 2 from rfl, Nat.reduceMul, Nat.reduceEqDiff, Go.Addr.add, ↓reduceIte] at hx180_0)
   have qi180 : (2 < l1_0.length) = True := eq_true (by omega)
   (try rw [show ((2 : Int)).toNat = 2 from rfl] at hx180_0)
   replace hx180_0 := (HB.out.cell (World.block_lt_of_cell? w _ hx180_0)).trans hx180_0
   replace p180 := eq_true p180
   replace q180 := eq_true q180
   have p181 : 0 ≤ (1 : Int) := (by omega)
   have q181 : 1 < (l0_0.length : Int) := of_decide_eq_true (by first | (with_reducible assumption) | assumption)
   obtain ⟨ad181, e181, hx181_0⟩ := Kd.at_int HR0_0.out 1 p181 q181
   have hw181_0 := hx181_0
   (try rw [show ((1 : Int)).toNat = 1 from rfl] at hw181_0)
   (try rw [show 1 * 1 = 1 from rfl] at hw181_0)
   (try simp only [Nat.reduceMul, Nat.reduceEqDiff, Go.Addr.add, ↓reduceIte] at hw181_0)
   obtain rfl : ad179 = ad181 := (by injection e181)
   (try simp only [show (1 : Int).toNat = 1 from rfl, Nat.reduceMul, Nat.reduceEqDiff, Go.Addr.add, ↓reduceIte] at hx181_0)
   have qi181 : (1 < l0_0.length) = True := eq_true (by omega)
   (try rw [show ((1 : Int)).toNat = 1 from rfl] at hx181_0)
   replace hx181_0 := (HB.out.cell (World.block_lt_of_cell? w _ hx181_0)).trans hx181_0
   replace p181 := eq_true p181
   replace q181 := eq_true q181
   refine start_ (n := 33) (S := fun w' => w'.cell? ⟨gb172, 0, none⟩ = some (.slice (some ad179) l0_0.length c0_0) ∧ w'.cell? ⟨gb172, 1, none⟩ = some (.slice A0_1 l0_1.length c0_1) ∧ w'.cell? ⟨gb173, 0, none⟩ = some (.slice (some ad178) l1_0.length c1_0) ∧ w'.cell? ⟨gb173, 1, none⟩ = some (.slice A1_1 l1_1.length c1_1) ∧ w'.cell? ⟨ad178.block, ad178.off + 1, none⟩ = some (.int .i64 (rd l1_0 1)) ∧ w'.cell? ad179 = some (.int .i64 (rd l0_0 0)) ∧ w'.cell? ⟨ad178.block, ad178.off + 2, none⟩ = some (.int .i64 (rd l1_0 2)) ∧ w'.cell? ⟨ad179.block, ad179.off + 1, none⟩ = some (.int .i64 (rd l0_0 1))) (ds := []) #[false, false, false, false, false, false, false, false, false, false, false, false, false, false, false, false, false, false, false, false, false, false, false, false, false, false, false, false, false, false, false, false, false] (by kernel_rfl) rfl rfl ⟨(blk_cell BK172.out 0).trans rfl, (blk_cell BK172.out 1).trans rfl, (blk_cell BK173.out 0).trans rfl, (blk_cell BK173.out 1).trans rfl, ((HB.out.cell (World.block_lt_of_cell? w _ hw178_0)).trans hw178_0), ((HB.out.cell (World.block_lt_of_cell? w _ hw179_0)).trans hw179_0), ((HB.out.cell (World.block_lt_of_cell? w _ hw180_0)).trans hw180_0), ((HB.out.cell (World.block_lt_of_cell? w _ hw181_0)).trans hw181_0)⟩ (fun hHeld => ?_); refine with_tabW conv_Row.tab3 conv_Row.bits3 (fun HT_ HW_ => ?_)
   generalize wc.drew = w51 at BK172 BK173 BK174 HB hx178_0 hx179_0 hx180_0 hx181_0 hHeld ⊢
   refine yp_ ?_ 0 36
   refine yt8_ ?_ 1 37
   refine yp_ ?_ 2 38
   refine yp_ ?_ 3 39
   refine yp_ ?_ 4 40
   refine yp_ ?_ 5 41
   refine yt8_ ?_ 6 42
   refine yp_ ?_ 7 43
   refine yp_ ?_ 8 44
   refine yp_ ?_ 9 45
   refine yp_ ?_ 10 46
   refine yp_ ?_ 11 47
   refine yp_ ?_ 15 51
   refine yt8_ ?_ 12 48
   refine yp_ ?_ 13 49
   refine yt8_ ?_ 14 50
   refine yt8_ ?_ 16 52
   refine yp_ ?_ 17 53
   refine yt8_ ?_ 18 54
   refine yp_ ?_ 19 55
   refine yp_ ?_ 20 56
   refine yp_ ?_ 21 57
   refine yp_ ?_ 22 58
   refine yp_ ?_ 26 62
   refine yt8_ ?_ 23 59
   refine yp_ ?_ 24 60
   refine yt8_ ?_ 25 61
   refine yt8_ ?_ 27 63
   refine yp_ ?_ 28 64
   refine yt8_ ?_ 29 65
   refine yp_ ?_ 30 66
   refine yp_ ?_ 31 67
   refine yp_ ?_ 32 35
   refine done_ (done_of HT_.out (by kernel_rfl)) ?_
   try go_wp2
   replace BK172 := Aside0.mk (blk_drew BK172.out)
   replace BK173 := Aside0.mk (blk_drew BK173.out)
   replace BK174 := Aside0.mk (blk_drew BK174.out)
   replace HB := Aside0.mk (below_drew1 HB.out)
   have p182 : 0 ≤ (0 : Int) := (by omega)
   have q182 : 0 < (l0_0.length : Int) := of_decide_eq_true (by first | (with_reducible assumption) | assumption)
   obtain ⟨ad182, e182, hx182_0⟩ := Kd.at_int HR0_0.out 0 p182 q182
   have hw182_0 := hx182_0
   (try rw [show ((0 : Int)).toNat = 0 from rfl] at hw182_0)
   (try rw [show 0 * 1 = 0 from rfl] at hw182_0)
   (try rw [Addr.add_zero'] at hw182_0)
   obtain rfl : ad179 = ad182 := (by injection e182)
   have qi182 : (0 < l0_0.length) = True := eq_true (by omega)
   (try rw [show ((0 : Int)).toNat = 0 from rfl] at hx182_0)
   (try rw [Addr.add_zero'] at hx182_0)
   replace hx182_0 := (HB.out.cell (World.block_lt_of_cell? w _ hx182_0)).trans hx182_0
   replace p182 := eq_true p182
   replace q182 := eq_true q182
   have p183 : 0 ≤ (1 : Int) := (by omega)
   have q183 : 1 < (l0_0.length : Int) := of_decide_eq_true (by first | (with_reducible assumption) | assumption)
   obtain ⟨ad183, e183, hx183_0⟩ := Kd.at_int HR0_0.out 1 p183 q183
   have hw183_0 := hx183_0
   (try rw [show ((1 : Int)).toNat = 1 from rfl] at hw183_0)
   (try rw [show 1 * 1 = 1 from rfl] at hw183_0)
   (try simp only [Nat.reduceMul, Nat.reduceEqDiff, Go.Addr.add, ↓reduceIte] at hw183_0)
   obtain rfl : ad179 = ad183 := (by injection e183)
   (try simp only [show (1 : Int).toNat = 1 from rfl, Nat.reduceMul, Nat.reduceEqDiff, Go.Addr.add, ↓reduceIte] at hx183_0)
   have qi183 : (1 < l0_0.length) = True := eq_true (by omega)
   (try rw [show ((1 : Int)).toNat = 1 from rfl] at hx183_0)
   replace hx183_0 := (HB.out.cell (World.block_lt_of_cell? w _ hx183_0)).trans hx183_0
   replace p183 := eq_true p183
   replace q183 := eq_true q183
   have p184 : 0 ≤ (2 : Int) := (by omega)
   have q184 : 2 < (l1_0.length : Int) := of_decide_eq_true (by first | (with_reducible assumption) | assumption)
   obtain ⟨ad184, e184, hx184_0⟩ := Kd.at_int HR1_0.out 2 p184 q184
   have hw184_0 := hx184_0
   (try rw [show ((2 : Int)).toNat = 2 from rfl] at hw184_0)
   (try rw [show 2 * 1 = 2 from rfl] at hw184_0)
   (try simp only [Nat.reduceMul, Nat.reduceEqDiff, Go.Addr.add, ↓reduceIte] at hw184_0)
   obtain rfl : ad178 = ad184 := (by injection e184)
   (try simp only [show (2 : Int).toNat = 2 from rfl, Nat.reduceMul, Nat.reduceEqDiff, Go.Addr.add, ↓reduceIte] at hx184_0)
   have qi184 : (2 < l1_0.length) = True := eq_true (by omega)
   (try rw [show ((2 : Int)).toNat = 2 from rfl] at hx184_0)
   replace hx184_0 := (HB.out.cell (World.block_lt_of_cell? w _ hx184_0)).trans hx184_0
   replace p184 := eq_true p184
   replace q184 := eq_true q184
   refine start_ (n := 15) (S := fun w' => w'.cell? ⟨gb172, 0, none⟩ = some (.slice (some ad179) l0_0.length c0_0) ∧ w'.cell? ⟨gb172, 1, none⟩ = some (.slice A0_1 l0_1.length c0_1) ∧ w'.cell? ⟨gb173, 0, none⟩ = some (.slice (some ad178) l1_0.length c1_0) ∧ w'.cell? ⟨gb173, 1, none⟩ = some (.slice A1_1 l1_1.length c1_1) ∧ w'.cell? ad179 = some (.int .i64 (rd l0_0 0)) ∧ w'.cell? ⟨ad179.block, ad179.off + 1, none⟩ = some (.int .i64 (rd l0_0 1)) ∧ w'.cell? ⟨ad178.block, ad178.off + 2, none⟩ = some (.int .i64 (rd l1_0 2))) (ds := []) #[false, false, false, false, false, false, false, false, false, false, false, false, false, false, false] (by kernel_rfl) rfl rfl ⟨(blk_cell BK172.out 0).trans rfl, (blk_cell BK172.out 1).trans rfl, (blk_cell BK173.out 0).trans rfl, (blk_cell BK173.out 1).trans rfl, ((HB.out.cell (World.block_lt_of_cell? w _ hw182_0)).trans hw182_0), ((HB.out.cell (World.block_lt_of_cell? w _ hw183_0)).trans hw183_0), ((HB.out.cell (World.block_lt_of_cell? w _ hw184_0)).trans hw184_0)⟩ (fun hHeld => ?_); refine with_tabW conv_Row.tab5 conv_Row.bits5 (fun HT_ HW_ => ?_)
   generalize w51.drew = w52 at BK172 BK173 BK174 HB hx182_0 hx183_0 hx184_0 hHeld ⊢
   refine yp_ ?_ 0 69
   refine yp_ ?_ 4 73
   refine yp_ ?_ 8 77
   refine yt7_ ?_ 1 70
   refine yp_ ?_ 2 71
   refine yt7_ ?_ 3 72
   refine yp_ ?_ 12 8
   refine yt7_ ?_ 5 74
   refine yp_ ?_ 6 75
   refine yt7_ ?_ 7 76
   refine yp_ ?_ 13 9
   refine yt7_ ?_ 9 78
   refine yp_ ?_ 10 79
   refine yt7_ ?_ 11 80
   refine yp_ ?_ 14 10
   refine done_ (done_of HT_.out (by kernel_rfl)) ?_
   try go_wp2_with (first | ((with_reducible refine gate_callee (f := 28) rfl ?_); refine zg_ (some 84) Try.func28 #[.int .i64 (rd l0_0 1), .int .i64 (rd l1_0 2), .int .i64 a2] (h := ?_); (with_reducible refine (conv_windows.calls (rd l0_0 1) (rd l1_0 2) a2 t185 _ A47.out).mono ?_); rintro e w' ⟨rfl, ⟨nd, rfl⟩⟩; refine ⟨_, rfl, ?_⟩; (try (rw [drewN_self w52]; generalize hq_ : World.drewN w52 _ = w52; have n0_ : Aside0 (w52.heap[gb172]? = some (.cells #[.slice (some ad179) l0_0.length c0_0, .slice A0_1 l0_1.length c0_1] 25 (0, 0))) := ⟨by rw [← hq_]; exact (zb_ BK172)⟩; have n1_ : Aside0 (w52.heap[gb173]? = some (.cells #[.slice (some ad178) l1_0.length c1_0, .slice A1_1 l1_1.length c1_1] 25 (0, 0))) := ⟨by rw [← hq_]; exact (zb_ BK173)⟩; have n2_ : Aside0 (w52.heap[gb174]? = some (.cells #[.slice none 0 0, .slice none 0 0] 25 (0, 0))) := ⟨by rw [← hq_]; exact (zb_ BK174)⟩; have n3_ : Aside0 (Below w.heap.size w w52) := ⟨by rw [← hq_]; exact (zw3_ HB GE172 GE173 GE174)⟩; clear BK172 BK173 BK174 HB hq_; have BK172 := n0_; have BK173 := n1_; have BK174 := n2_; have HB := n3_; clear n0_ n1_ n2_ n3_)); have hnb53 := NB173_172.out; have hnc53 := NB172_173.out; have hnb54 := NB173_174.out; have hnc54 := NB174_173.out; have hcz55_0 := zx_ (v := .slice (some ad178) l1_0.length c1_0) BK173 0; have hcz55_1 := zx_ (v := .slice A1_1 l1_1.length c1_1) BK173 1; have hfz55_0 := blk_frozen BK173.out 0; have hfz55_1 := blk_frozen BK173.out 1; have p186 : 0 ≤ (0 : Int) := (by omega); have q186 : 0 < (l1_0.length : Int) := of_decide_eq_true (by first | (with_reducible assumption) | assumption); obtain ⟨ad186, e186, hx186_0⟩ := Kd.at_int HR1_0.out 0 p186 q186; obtain rfl : ad178 = ad186 := (by injection e186); have qi186 : (0 < l1_0.length) = True := eq_true (by omega); (try rw [show ((0 : Int)).toNat = 0 from rfl] at hx186_0); (try rw [Addr.add_zero'] at hx186_0); replace hx186_0 := (HB.out.cell (World.block_lt_of_cell? w _ hx186_0)).trans hx186_0; replace p186 := eq_true p186; replace q186 := eq_true q186) | ((with_reducible refine gate_dst (N := 91) rfl ?_); (try (refine gate_guard (by rfl) ?_; dsimp only)); refine Kd.R_lit (Kd.int .i64) _ 3 ?hg (N := 91) ?hd (xs := ([rd l1_0 0, t185] : List Int)) (inner := [.int .i64 (rd l1_0 0), .int .i64 t185]) (ok := fun _ => True) (okp := fun _ => True) ?hr ?hp (fun _ hk => hk) trivial (Below.refl _ _) (Nat.le_refl _) (by simp) ?_; (case hd => rfl); (case hg => rfl); (case hr => first | (go_simp; done) | (go_simp; rfl)); (case hp => exact (Reps.one (show Kd.M (Kd.int .i64) _ _ _ (rd l1_0 0) [.int .i64 (rd l1_0 0)] from rfl) (Reps.one (show Kd.M (Kd.int .i64) _ _ _ t185 [.int .i64 t185] from rfl) (Reps.none _ _)))); intro v188 w56 ho57 hb hg_ hnew_; clear hg_ hnew_; (first | rw [← Ny187.out] at ho57 | (simp only [Int.reduceToNat] at ho57; rw [← Ny187.out] at ho57)); have HO189 := Aside0.mk (Kd.R_lower ho57 (below_size (zw3_ HB GE172 GE173 GE174))); replace BK172 := za_ BK172 hb; replace BK173 := za_ BK173 hb; replace BK174 := za_ BK174 hb; replace HB := Aside0.mk (below_step (zw3_ HB GE172 GE173 GE174) hb); clear hb ho57; obtain ⟨Ao58, co58, eo58⟩ := Kd.R_slice HO189.out; subst eo58) | ((with_reducible refine gate_callee (f := 29) rfl ?_); refine zg_ (some 92) Try.func29 #[.slice Ao58 y187.length co58] (h := ?_); (with_reducible refine (conv_of.calls kj3 _ _ y187 t190 t193 t196 _ ?side1 ?side2 A49.out).mono ?_); (case side1 => exact zk_ ((Kd.R_reads' HO189.out).2.2)); (case side2 => exact (Kd.R_reads' HO189.out).2.1); rintro e w59 ⟨v191, v194, rfl, ho0, ho1, hb⟩; refine ⟨_, rfl, ?_⟩; have HO192 := Aside0.mk (Kd.R_lower (Kd.R_new' ho0 (Kd.R_lt (zr_ HO189.out))) (below_size (zw3_ HB GE172 GE173 GE174))); replace HO189 := ze_ HO189 ho0 hb; have HO195 := Aside0.mk (Kd.R_lower ho1 (below_size (zw3_ HB GE172 GE173 GE174))); replace BK172 := za_ BK172 hb; replace BK173 := za_ BK173 hb; replace BK174 := za_ BK174 hb; replace HB := Aside0.mk (below_step (zw3_ HB GE172 GE173 GE174) hb); (try clear hb); (try clear ho0); (try clear ho1)) | ((with_reducible refine gate_dst (N := 12) rfl ?_); (try (refine gate_guard (by rfl) ?_; dsimp only)); refine box_event ?hg (N := 12) ?hd (cs := #[.slice none 0 0, .slice none 0 0]) (t := 25) ?hr ?_; (case hd => rfl); (case hg => rfl); (case hr => first | (go_simp; done) | (go_simp; rfl)); intro gb197 hg w60 hbox hb; replace HO189 := zy_ HO189 hb; replace HO192 := zy_ HO192 hb; replace HO195 := zy_ HO195 hb; have BK197 := Aside0.mk (hbox); have GW197 := Aside0.mk (zs_ hg (zw3_ HB GE172 GE173 GE174)); have GE197 := Aside0.mk (zs_ hg (zw3_ HB GE172 GE173 GE174)); replace HB := Aside0.mk (below_step (zw3_ HB GE172 GE173 GE174) hb); have NB172_197 := Aside0.mk (zn_ hg BK172); have NB197_172 := Aside0.mk (zm_ hg BK172); replace BK172 := za_ BK172 hb; have NB173_197 := Aside0.mk (zn_ hg BK173); have NB197_173 := Aside0.mk (zm_ hg BK173); replace BK173 := za_ BK173 hb; have NB174_197 := Aside0.mk (zn_ hg BK174); have NB197_174 := Aside0.mk (zm_ hg BK174); replace BK174 := za_ BK174 hb; clear hb hbox hg; obtain ⟨Ao61, co61, eo61⟩ := Kd.R_slice HO192.out; subst eo61; have hnb62 := NB197_172.out; have hnc62 := NB172_197.out; have hnb63 := NB197_173.out; have hnc63 := NB173_197.out; have hnb64 := NB197_174.out; have hnc64 := NB174_197.out; have hcz65_0 := zx_ (v := .slice none 0 0) BK197 0; have hcz65_1 := zx_ (v := .slice none 0 0) BK197 1; have hfz65_0 := blk_frozen BK197.out 0; have hfz65_1 := blk_frozen BK197.out 1; obtain ⟨Ao66, co66, eo66⟩ := Kd.R_slice HO195.out; subst eo66))
   go_loopg [102] kj3 (fun kq v102 w' => ∃ (x102_2 : Int) (x198001_2 : List Int) (u198001 : Value), v102 = .int .i64 x102_2 ∧ Aside0 (conv_Row.l0 kq a2 (rd l0_0 0) (rd l0_0 1) (rd l1_0 2) t185 (t193.length : Int) x102_2 l0_0 l0_1 l1_0 l1_1 t190 x198001_2 = some (r1, r2, r3)) ∧ Aside0 (kq ≤ kj3) ∧ Aside0 (Kd.R (Kd.int .i64) 3 w' w.heap.size (fun _ => True) (.slice Ao61 t190.length co61) t190) ∧ Aside0 (Kd.R (Kd.int .i64) 33 w' w.heap.size (fun _ => True) u198001 x198001_2) ∧ Aside0 (w'.heap[gb172]? = some (.cells #[(.slice (some ad179) l0_0.length c0_0), (.slice A0_1 l0_1.length c0_1)] 25 (0, 0))) ∧ Aside0 (w'.heap[gb173]? = some (.cells #[(.slice (some ad178) l1_0.length c1_0), (.slice A1_1 l1_1.length c1_1)] 25 (0, 0))) ∧ Aside0 (w'.heap[gb174]? = some (.cells #[(.slice none 0 0), (.slice none 0 0)] 25 (0, 0))) ∧ Aside0 (w'.heap[gb197]? = some (.cells #[(.slice Ao61 t190.length co61), u198001] 25 (0, 0))) ∧ Aside0 (Below w.heap.size w w'))
   case atStart => exact ⟨(0), (t193), (.slice Ao66 t193.length co66), z1_, H', ⟨Nat.le_refl _⟩, ⟨zr_ (Kd.R_mono (Kd.R_far (p := ⟨gb197, 1, none⟩) (Kd.R_far (p := ⟨gb197, 0, none⟩) (Kd.R_types HO192.out BK197.out (by decide)) (fun _ hk => hk.2) (.slice Ao61 t190.length co61)) (fun _ hk => hk.2) (.slice Ao66 t193.length co66)) (fun _ hk => trivial))⟩, ⟨zr_ (Kd.R_mono (Kd.R_far (p := ⟨gb197, 1, none⟩) (Kd.R_far (p := ⟨gb197, 0, none⟩) (Kd.R_types HO195.out BK197.out (by decide)) (fun _ hk => hk.2) (.slice Ao61 t190.length co61)) (fun _ hk => hk.2) (.slice Ao66 t193.length co66)) (fun _ hk => trivial))⟩, ⟨zv1_ BK172 NB172_197⟩, ⟨zv1_ BK173 NB173_197⟩, ⟨zv1_ BK174 NB174_197⟩, ⟨zo2_ BK197⟩, ⟨zw4_ HB GE172 GE173 GE174 GE197⟩⟩
   case round =>
    clear H'
    try clear c1
    try clear p1
    try clear q1
    try clear hx1
    try clear qi1
    try clear c2
    try clear p2
    try clear c4
    try clear c5
    try clear c6
    try clear p17
    try clear q17
    try clear hx17
    try clear qi17
    try clear p18
    try clear q18
    try clear hx18
    try clear qi18
    try clear c28
    try clear c29
    try clear c42
    try clear c42b0
    try clear c44
    try clear c45
    try clear c48
    try clear c48b0
    try clear c48b1
    try clear c50
    try clear c50b0
    try clear c50b1
    try clear c53
    try clear c54
    try clear c62
    try clear c63
    try clear c64
    try clear hcz46_0
    try clear hcz46_1
    try clear hcz55_0
    try clear hcz55_1
    try clear hcz65_0
    try clear hcz65_1
    try clear hfz46_0
    try clear hfz46_1
    try clear hfz55_0
    try clear hfz55_1
    try clear hfz65_0
    try clear hfz65_1
    try clear hx178_0
    try clear hx179_0
    try clear hx180_0
    try clear hx181_0
    try clear hx182_0
    try clear hx183_0
    try clear hx184_0
    try clear hx186_0
    try clear p178
    try clear p179
    try clear p180
    try clear p181
    try clear p182
    try clear p183
    try clear p184
    try clear p186
    try clear q178
    try clear q179
    try clear q180
    try clear q181
    try clear q182
    try clear q183
    try clear q184
    try clear q186
    obtain ⟨x102_2, x198001_2, u198001, rfl, HA, HK2, HO_198000, HO_198001, BK172, BK173, BK174, BK197, HB⟩ := hrel
    cases gk with
    | zero => exact absurd HA.out (by simp [conv_Row.l0])
    | succ k2 =>
     have H := HA.out
     clear HA
     simp only [conv_Row.l0] at H
     by_cases c67 : x102_2 < (t193.length : Int)
     rotate_left
     ·rw [if_neg c67] at H
      have c67b0 : decide (x102_2 < (t193.length : Int)) = false := decide_eq_false c67
      clear c67
      simp only [Option.some.injEq, Prod.mk.injEq] at H
      obtain ⟨rfl, rfl, rfl⟩ := H
      have hnb100 := NB197_172.out
      have hnc100 := NB172_197.out
      have hnb101 := NB197_173.out
      have hnc101 := NB173_197.out
      have hnb102 := NB197_174.out
      have hnc102 := NB174_197.out
      have hcz103_0 := zx_ (v := .slice Ao61 t190.length co61) BK197 0
      have hcz103_1 := zx_ (v := u198001) BK197 1
      have hfz103_0 := blk_frozen BK197.out 0
      have hfz103_1 := blk_frozen BK197.out 1
      have hnb104 := NB174_172.out
      have hnc104 := NB172_174.out
      have hnb105 := NB174_173.out
      have hnc105 := NB173_174.out
      have hcz106_0 := zx_ (v := .slice none 0 0) BK174 0
      have hcz106_1 := zx_ (v := .slice none 0 0) BK174 1
      have hfz106_0 := blk_frozen BK174.out 0
      have hfz106_1 := blk_frozen BK174.out 1
      obtain ⟨Ao107, co107, eo107⟩ := Kd.R_slice HO_198001.out
      subst eo107
      go_wp2
      refine bodyPost_ret (results_ct rfl _ _ gb174 25 #[.slice Ao61 t190.length co61, .slice Ao107 x198001_2.length co107] (0, 0) _ rfl (zo2_ BK174) Try.underlying25 rfl (by kernel_rfl)) rfl ?_
      exact ⟨_, _, z0_, zr_ (Kd.R_mono (Kd.R_far (p := ⟨gb174, 1, none⟩) (Kd.R_far (p := ⟨gb174, 0, none⟩) (Kd.R_types HO_198000.out BK174.out (by decide)) (fun _ hk => hk.2) (.slice Ao61 t190.length co61)) (fun _ hk => hk.2) (.slice Ao107 x198001_2.length co107)) (fun _ hk => trivial)), zr_ (Kd.R_mono (Kd.R_far (p := ⟨gb174, 1, none⟩) (Kd.R_far (p := ⟨gb174, 0, none⟩) (Kd.R_types HO_198001.out BK174.out (by decide)) (fun _ hk => hk.2) (.slice Ao61 t190.length co61)) (fun _ hk => hk.2) (.slice Ao107 x198001_2.length co107)) (fun _ hk => trivial)), zw4_ HB GE172 GE173 GE174 GE197⟩
     rw [if_pos c67] at H
     have c67b0 : decide (x102_2 < (t193.length : Int)) = true := decide_eq_true c67
     clear c67
     by_cases c68 : t185 = 0
     ·rw [if_pos c68] at H
      exact absurd H (by simp)
     rw [if_neg c68] at H
     have c68b0 : (t185 == 0) = false := beq_eq_false_iff_ne.mpr c68
     have c68b1 : (t185 != 0) = true := bne_iff_ne.mpr c68
     have H' := Aside0.mk H
     clear H
     try go_wp2
     replace HO_198000 := Aside0.mk (Kd.R_drew HO_198000.out)
     replace HO_198001 := Aside0.mk (Kd.R_drew HO_198001.out)
     replace BK172 := Aside0.mk (blk_drew BK172.out)
     replace BK173 := Aside0.mk (blk_drew BK173.out)
     replace BK174 := Aside0.mk (blk_drew BK174.out)
     replace BK197 := Aside0.mk (blk_drew BK197.out)
     replace HB := Aside0.mk (below_drew1 HB.out)
     refine start_ (n := 8) (S := fun w' => True) (ds := []) #[false, false, false, false, false, false, false, false] (by kernel_rfl) rfl rfl trivial (fun hHeld => ?_); refine with_tabW conv_Row.tab13 conv_Row.bits13 (fun HT_ HW_ => ?_)
     generalize wr.drew = w69 at HO_198000 HO_198001 BK172 BK173 BK174 BK197 HB hHeld ⊢
     refine yp_ ?_ 0 105
     refine yp_ ?_ 1 106
     refine yp_ ?_ 2 107
     refine yp_ ?_ 3 108
     refine yp_ ?_ 4 109
     refine yp_ ?_ 5 110
     refine yp_ ?_ 6 15
     refine yp_ ?_ 7 16
     refine done_ (done_of HT_.out (by kernel_rfl)) ?_
     try go_wp2_with (first | ((with_reducible refine gate_dst (N := 17) rfl ?_); (try (refine gate_guard (by rfl) ?_; dsimp only)); refine box_event ?hg (N := 17) ?hd (cs := #[.int .i64 0, .int .i64 0, .int .u64 0]) (t := 54) ?hr ?_; (case hd => rfl); (case hg => rfl); (case hr => first | (go_simp; done) | (go_simp; rfl)); intro gb198 hg w70 hbox hb; replace HO_198000 := zy_ HO_198000 hb; replace HO_198001 := zy_ HO_198001 hb; have BK198 := Aside0.mk (hbox); have GW198 := Aside0.mk (zs_ hg (zw4_ HB GE172 GE173 GE174 GE197)); have GE198 := Aside0.mk (zs_ hg (zw4_ HB GE172 GE173 GE174 GE197)); replace HB := Aside0.mk (below_step (zw4_ HB GE172 GE173 GE174 GE197) hb); have NB172_198 := Aside0.mk (zn_ hg BK172); have NB198_172 := Aside0.mk (zm_ hg BK172); replace BK172 := za_ BK172 hb; have NB173_198 := Aside0.mk (zn_ hg BK173); have NB198_173 := Aside0.mk (zm_ hg BK173); replace BK173 := za_ BK173 hb; have NB174_198 := Aside0.mk (zn_ hg BK174); have NB198_174 := Aside0.mk (zm_ hg BK174); replace BK174 := za_ BK174 hb; have NB197_198 := Aside0.mk (zn_ hg BK197); have NB198_197 := Aside0.mk (zm_ hg BK197); replace BK197 := za_ BK197 hb; clear hb hbox hg))
     go_loopg [112] k2 (fun kq v112 w' => ∃ (x112_3 : Int) (x199000_3 : Int) (x199001_3 : Int) (x199002_3 : Int), v112 = .int .i64 x112_3 ∧ Aside0 (conv_Row.l1 kq a2 (rd l0_0 0) (rd l0_0 1) (rd l1_0 2) t185 x102_2 (wrap64 (Int.tdiv x102_2 t185)) (Int.tmod x102_2 t185) (t193.length : Int) x102_2 (rd l0_0 0) x112_3 l0_0 l0_1 l1_0 l1_1 t190 x198001_2 x199000_3 x199001_3 x199002_3 = some (r1, r2, r3)) ∧ Aside0 (kq ≤ k2) ∧ Aside0 (Kd.R (Kd.int .i64) 3 w' w.heap.size (fun _ => True) (.slice Ao61 t190.length co61) t190) ∧ Aside0 (Kd.R (Kd.int .i64) 33 w' w.heap.size (fun _ => True) u198001 x198001_2) ∧ Aside0 (w'.heap[gb172]? = some (.cells #[(.slice (some ad179) l0_0.length c0_0), (.slice A0_1 l0_1.length c0_1)] 25 (0, 0))) ∧ Aside0 (w'.heap[gb173]? = some (.cells #[(.slice (some ad178) l1_0.length c1_0), (.slice A1_1 l1_1.length c1_1)] 25 (0, 0))) ∧ Aside0 (w'.heap[gb174]? = some (.cells #[(.slice none 0 0), (.slice none 0 0)] 25 (0, 0))) ∧ Aside0 (w'.heap[gb197]? = some (.cells #[(.slice Ao61 t190.length co61), u198001] 25 (0, 0))) ∧ Aside0 (w'.heap[gb198]? = some (.cells #[.int .i64 x199000_3, .int .i64 x199001_3, .int .u64 x199002_3] 54 (0, 0))) ∧ Aside0 (Below w.heap.size w w'))
     case atStart => exact ⟨(0), (0), (0), (0), z1_, H', ⟨Nat.le_refl _⟩, ⟨zr_ HO_198000.out⟩, ⟨zr_ HO_198001.out⟩, ⟨zb_ BK172⟩, ⟨zb_ BK173⟩, ⟨zb_ BK174⟩, ⟨zb_ BK197⟩, ⟨zb_ BK198⟩, ⟨zw5_ HB GE172 GE173 GE174 GE197 GE198⟩⟩
     case round =>
      clear H'
      try clear c1
      try clear p1
      try clear q1
      try clear hx1
      try clear qi1
      try clear c2
      try clear p2
      try clear c4
      try clear c5
      try clear c6
      try clear p6
      try clear p17
      try clear q17
      try clear hx17
      try clear qi17
      try clear p18
      try clear q18
      try clear hx18
      try clear qi18
      try clear c28
      try clear c29
      try clear c42
      try clear c42b0
      try clear c44
      try clear c45
      try clear c48
      try clear c48b0
      try clear c48b1
      try clear c50
      try clear c50b0
      try clear c50b1
      try clear c53
      try clear c54
      try clear c62
      try clear c63
      try clear c64
      try clear p64
      try clear c67
      try clear c67b0
      try clear c68
      try clear c68b0
      try clear c68b1
      try clear hcz46_0
      try clear hcz46_1
      try clear hcz55_0
      try clear hcz55_1
      try clear hcz65_0
      try clear hcz65_1
      try clear hfz46_0
      try clear hfz46_1
      try clear hfz55_0
      try clear hfz55_1
      try clear hfz65_0
      try clear hfz65_1
      try clear hx178_0
      try clear hx179_0
      try clear hx180_0
      try clear hx181_0
      try clear hx182_0
      try clear hx183_0
      try clear hx184_0
      try clear hx186_0
      try clear p1
      try clear p17
      try clear p178
      try clear p179
      try clear p18
      try clear p180
      try clear p181
      try clear p182
      try clear p183
      try clear p184
      try clear p186
      try clear p2
      try clear q1
      try clear q17
      try clear q178
      try clear q179
      try clear q18
      try clear q180
      try clear q181
      try clear q182
      try clear q183
      try clear q184
      try clear q186
      obtain ⟨x112_3, x199000_3, x199001_3, x199002_3, rfl, HA, HK3, HO_198000, HO_198001, BK172, BK173, BK174, BK197, BK198, HB⟩ := hrel
      cases gk with
      | zero => exact absurd HA.out (by simp [conv_Row.l1])
      | succ k3 =>
       have H := HA.out
       clear HA
       simp only [conv_Row.l1] at H
       by_cases c71 : x112_3 < (rd l0_0 0)
       rotate_left
       ·rw [if_neg c71] at H
        have c71b0 : decide (x112_3 < (rd l0_0 0)) = false := decide_eq_false c71
        clear c71
        replace H := Option.bind_eq_some_iff.mp H
        obtain ⟨t199, A880, H⟩ := H
        (try dsimp only at H)
        have A88 := Aside0.mk A880
        clear A880
        by_cases c89 : 0 ≤ x102_2
        rotate_left
        ·rw [if_neg c89] at H
         exact absurd H (by simp)
        rw [if_pos c89] at H
        have c89b0 : decide (0 ≤ x102_2) = true := decide_eq_true c89
        clear c89
        by_cases c90 : x102_2 < (x198001_2.length : Int)
        rotate_left
        ·rw [if_neg c90] at H
         exact absurd H (by simp)
        rw [if_pos c90] at H
        have c90b0 : decide (x102_2 < (x198001_2.length : Int)) = true := decide_eq_true c90
        clear c90
        obtain ⟨y200, hy200⟩ : ∃ y_ : List Int, y_ = (x198001_2.set (x102_2 : Int).toNat t199) := ⟨_, rfl⟩
        replace H : (conv_Row.l0 k3 a2 (rd l0_0 0) (rd l0_0 1) (rd l1_0 2) t185 (t193.length : Int) (wrap64 (x102_2 + 1)) l0_0 l0_1 l1_0 l1_1 t190 y200) = some (r1, r2, r3) := by first | (rw [hy200]; with_reducible exact H) | (have H2_ := (Option.bind_some _ _).symm.trans H; rw [hy200]; with_reducible exact H2_) | (have H2_ := (Option.bind_some _ _).symm.trans H; with_reducible exact H2_) | with_reducible exact H | (rw [hy200]; exact H) | exact H
        have Ny200 := Aside0.mk hy200
        clear hy200
        have H' := Aside0.mk H
        clear H
        have hnb92 := NB198_172.out
        have hnc92 := NB172_198.out
        have hnb93 := NB198_173.out
        have hnc93 := NB173_198.out
        have hnb94 := NB198_174.out
        have hnc94 := NB174_198.out
        have hnb95 := NB198_197.out
        have hnc95 := NB197_198.out
        have hcz96_0 := zx_ (v := .int .i64 x199000_3) BK198 0
        have hcz96_1 := zx_ (v := .int .i64 x199001_3) BK198 1
        have hcz96_2 := zx_ (v := .int .u64 x199002_3) BK198 2
        have hfz96_0 := blk_frozen BK198.out 0
        have hfz96_1 := blk_frozen BK198.out 1
        have hfz96_2 := blk_frozen BK198.out 2
        try go_wp2
        replace HO_198000 := Aside0.mk (Kd.R_drew HO_198000.out)
        replace HO_198001 := Aside0.mk (Kd.R_drew HO_198001.out)
        replace BK172 := Aside0.mk (blk_drew BK172.out)
        replace BK173 := Aside0.mk (blk_drew BK173.out)
        replace BK174 := Aside0.mk (blk_drew BK174.out)
        replace BK197 := Aside0.mk (blk_drew BK197.out)
        replace BK198 := Aside0.mk (blk_drew BK198.out)
        replace HB := Aside0.mk (below_drew1 HB.out)
        refine start_ (n := 6) (S := fun w' => w'.cell? ⟨gb197, 0, none⟩ = some (.slice Ao61 t190.length co61) ∧ w'.cell? ⟨gb197, 1, none⟩ = some (u198001)) (ds := [5]) #[false, false, false, false, false, false] (by kernel_rfl) rfl rfl ⟨(blk_cell BK197.out 0).trans rfl, (blk_cell BK197.out 1).trans rfl⟩ (fun hHeld => ?_)
        generalize wr.drew = w97 at HO_198000 HO_198001 BK172 BK173 BK174 BK197 BK198 HB hHeld ⊢
        refine pure_ (i := 0) (N := some 148) (v := ?_) (a' := ?_) #[true, false, false, false, false, false] rfl rfl (by kernel_rfl) (fun _ _ _ h => h) (Or.inl ⟨by rfl, ?_⟩) ?_ ?_
        rotate_left
        ·intro w'
         go_simp
         with_reducible rfl
        rotate_left
        ·simp only [Act.put, List.setIfInBounds_toArray, List.set_cons_zero, List.set_cons_succ, i64_w, i32_w]
         rfl
        refine pure_ (i := 2) (N := some 150) (v := ?_) (a' := ?_) #[true, false, true, false, false, false] rfl rfl (by kernel_rfl) (fun _ _ _ h => h) (Or.inl ⟨by rfl, ?_⟩) ?_ ?_
        rotate_left
        ·intro w'
         go_simp
         with_reducible rfl
        rotate_left
        ·simp only [Act.put, List.setIfInBounds_toArray, List.set_cons_zero, List.set_cons_succ, i64_w, i32_w]
         rfl
        refine take_ (i := 1) (N := some 149) (v := ?_) (a' := ?_) #[true, true, true, false, false, false] rfl rfl (by kernel_rfl) (fun _ _ _ h => h) (Or.inl ⟨by rfl, ?_⟩) hHeld ?_ ?_
        rotate_left
        ·rintro w' ⟨s0, s1⟩
         go_simp
         with_reducible rfl
        rotate_left
        ·simp only [Act.put, List.setIfInBounds_toArray, List.set_cons_zero, List.set_cons_succ, i64_w, i32_w]
         rfl
        refine one_ (i := 3) (N := some 151) #[true, true, true, true, false, false] rfl rfl (by kernel_rfl) (by decide) (fun K hK => ?_)
        refine yg_ Try.func31 #[.pointer (some ⟨gb198, 0, none⟩), .int .i64 32] ?_
        with_reducible refine (wide_Acc_Fix.calls k3 gb198 x199000_3 x199001_3 x199002_3 32 t199 _ (zb_ BK198) A88.out).mono ?_
        rintro e w98 ⟨rfl, hb⟩
        refine ⟨_, rfl, ?_⟩
        replace HO_198000 := zy_ HO_198000 hb
        replace HO_198001 := zy_ HO_198001 hb
        replace BK172 := za_ BK172 hb
        replace BK173 := za_ BK173 hb
        replace BK174 := za_ BK174 hb
        replace BK197 := za_ BK197 hb
        replace BK198 := za_ BK198 hb
        replace HB := Aside0.mk (below_step (zw5_ HB GE172 GE173 GE174 GE197 GE198) hb)
        (try clear hb)
        (try clear hb2)
        (try clear hk)
        (try clear hi)
        have p91 : 0 ≤ (x102_2 : Int) := of_decide_eq_true (by first | (with_reducible assumption) | assumption)
        have q91 : (x102_2 : Int) < ((x198001_2.length : Int) : Int) := of_decide_eq_true (by first | (with_reducible assumption) | assumption)
        obtain ⟨go91, co91, eo91, gb91, gl91, cl91, HG91⟩ := Kd.R_form HO_198001.out (by omega)
        (first | cases eo91 | (injection eo91 with ea_ en_ ec_; (first | subst ea_ | (injection ea_ with ea_; subst ea_)); subst ec_; clear en_))
        have GB91 := Aside0.mk gb91
        have GG91 := Aside0.mk HG91
        clear gb91 gl91 HG91
        obtain ⟨hx91_0, hf91_0⟩ := Kd.R_celln 0 HO_198001.out (x102_2 : Int) p91 q91
        replace p91 := eq_true p91
        replace q91 := eq_true q91
        have HP99 := Kd.R_putn HO_198001.out (x102_2 : Int) t199
        rw [← Ny200.out] at HP99
        have HQ99 := Aside0.mk HP99
        clear HP99
        refine hK.out _ _ ⟨zx_ BK197 0, zx_ BK197 1⟩ (fun hHeld => ?_)
        clear hK K
        refine zq_ (some 151) (h := ?_)
        refine pure_ (i := 4) (N := some 152) (v := ?_) (a' := ?_) #[true, true, true, true, true, false] rfl rfl (by kernel_rfl) (fun _ _ _ h => h) (Or.inl ⟨by rfl, ?_⟩) ?_ ?_
        rotate_left
        ·intro w'
         go_simp
         with_reducible rfl
        rotate_left
        ·simp only [Act.put, List.setIfInBounds_toArray, List.set_cons_zero, List.set_cons_succ, i64_w, i32_w]
         rfl
        refine last_ (i := 5) (N := none) #[true, true, true, true, true, true] rfl rfl (by kernel_rfl) (by decide) (fun K hK => ?_)
        refine skip_ (w1 := ?_) (by rfl) rfl ?_ ?_
        rotate_left
        ·go_simp
         rfl
        refine hK.out _ _ ?_
        clear hK K
        refine done_ (by kernel_rfl) ?_
        try go_wp2
        go_roundg k3
        case measure => have := HJ3.out; have := HK2.out; have := HK3.out; omega
        case rel => exact ⟨(wrap64 (x102_2 + 1)), (y200), (.slice (some ⟨go91, 0, none⟩) x198001_2.length co91), z1_, H', ⟨by have := HJ3.out; have := HK2.out; have := HK3.out; omega⟩, ⟨zr_ (Kd.R_mono (Kd.R_far (p := ⟨go91, (x102_2 : Int).toNat, none⟩) (Kd.R_types HO_198000.out GG91.out (by decide)) (fun _ hk => hk.2) (.int .i64 t199)) (fun _ hk => trivial))⟩, ⟨zr_ HQ99.out⟩, ⟨by (with_reducible repeat (first | refine blk_drewN ?_ _ | refine blk_drew ?_ | refine blk_alloc ?_ _)); refine blk_far ?_ (by have h_ := Kd.R_ne HO_198001.out BK172.out (by decide); intro e_; exact h_ (by rw [e_]; rfl)) _; (with_reducible repeat (first | refine blk_drewN ?_ _ | refine blk_drew ?_ | refine blk_alloc ?_ _)); exact BK172.out⟩, ⟨by (with_reducible repeat (first | refine blk_drewN ?_ _ | refine blk_drew ?_ | refine blk_alloc ?_ _)); refine blk_far ?_ (by have h_ := Kd.R_ne HO_198001.out BK173.out (by decide); intro e_; exact h_ (by rw [e_]; rfl)) _; (with_reducible repeat (first | refine blk_drewN ?_ _ | refine blk_drew ?_ | refine blk_alloc ?_ _)); exact BK173.out⟩, ⟨by (with_reducible repeat (first | refine blk_drewN ?_ _ | refine blk_drew ?_ | refine blk_alloc ?_ _)); refine blk_far ?_ (by have h_ := Kd.R_ne HO_198001.out BK174.out (by decide); intro e_; exact h_ (by rw [e_]; rfl)) _; (with_reducible repeat (first | refine blk_drewN ?_ _ | refine blk_drew ?_ | refine blk_alloc ?_ _)); exact BK174.out⟩, ⟨by (with_reducible repeat (first | refine blk_drewN ?_ _ | refine blk_drew ?_ | refine blk_alloc ?_ _)); refine blk_far ?_ (by have h_ := Kd.R_ne HO_198001.out BK197.out (by decide); intro e_; exact h_ (by rw [e_]; rfl)) _; (with_reducible repeat (first | refine blk_drewN ?_ _ | refine blk_drew ?_ | refine blk_alloc ?_ _)); exact BK197.out⟩, ⟨by repeat (first | (with_reducible first | exact HB.out | apply below_alloc | apply pw_below_drewN | apply below_drew1 | refine below_set ?_ GB91.out | refine below_set ?_ GE172.out | refine below_set ?_ GE173.out | refine below_set ?_ GE174.out | refine below_set ?_ GE197.out | refine below_set ?_ GE198.out) | exact HB.out)⟩⟩
       rw [if_pos c71] at H
       have c71b0 : decide (x112_3 < (rd l0_0 0)) = true := decide_eq_true c71
       clear c71
       have H' := Aside0.mk H
       clear H
       go_wp2
       go_loopg [116] k3 (fun kq v116 w' => ∃ (x116_4 : Int) (x199000_4 : Int) (x199001_4 : Int) (x199002_4 : Int), v116 = .int .i64 x116_4 ∧ Aside0 (conv_Row.l2 kq a2 (rd l0_0 0) (rd l0_0 1) (rd l1_0 2) t185 x102_2 (wrap64 (Int.tdiv x102_2 t185)) (Int.tmod x102_2 t185) x112_3 (t193.length : Int) x102_2 (rd l0_0 0) x112_3 (rd l1_0 2) x116_4 l0_0 l0_1 l1_0 l1_1 t190 x198001_2 x199000_4 x199001_4 x199002_4 = some (r1, r2, r3)) ∧ Aside0 (kq ≤ k3) ∧ Aside0 (Kd.R (Kd.int .i64) 3 w' w.heap.size (fun _ => True) (.slice Ao61 t190.length co61) t190) ∧ Aside0 (Kd.R (Kd.int .i64) 33 w' w.heap.size (fun _ => True) u198001 x198001_2) ∧ Aside0 (w'.heap[gb172]? = some (.cells #[(.slice (some ad179) l0_0.length c0_0), (.slice A0_1 l0_1.length c0_1)] 25 (0, 0))) ∧ Aside0 (w'.heap[gb173]? = some (.cells #[(.slice (some ad178) l1_0.length c1_0), (.slice A1_1 l1_1.length c1_1)] 25 (0, 0))) ∧ Aside0 (w'.heap[gb174]? = some (.cells #[(.slice none 0 0), (.slice none 0 0)] 25 (0, 0))) ∧ Aside0 (w'.heap[gb197]? = some (.cells #[(.slice Ao61 t190.length co61), u198001] 25 (0, 0))) ∧ Aside0 (w'.heap[gb198]? = some (.cells #[.int .i64 x199000_4, .int .i64 x199001_4, .int .u64 x199002_4] 54 (0, 0))) ∧ Aside0 (Below w.heap.size w w'))
       case atStart => exact ⟨(0), (x199000_3), (x199001_3), (x199002_3), z1_, H', ⟨Nat.le_refl _⟩, ⟨zr_ HO_198000.out⟩, ⟨zr_ HO_198001.out⟩, ⟨zb_ BK172⟩, ⟨zb_ BK173⟩, ⟨zb_ BK174⟩, ⟨zb_ BK197⟩, ⟨zb_ BK198⟩, ⟨zw5_ HB GE172 GE173 GE174 GE197 GE198⟩⟩
       case round =>
        clear H'
        try clear c1
        try clear p1
        try clear q1
        try clear hx1
        try clear qi1
        try clear c2
        try clear p2
        try clear c4
        try clear c5
        try clear c6
        try clear p6
        try clear c7
        try clear p17
        try clear q17
        try clear hx17
        try clear qi17
        try clear p18
        try clear q18
        try clear hx18
        try clear qi18
        try clear c28
        try clear c29
        try clear c42
        try clear c42b0
        try clear c44
        try clear c45
        try clear c48
        try clear c48b0
        try clear c48b1
        try clear c50
        try clear c50b0
        try clear c50b1
        try clear c53
        try clear c54
        try clear c62
        try clear c63
        try clear c64
        try clear p64
        try clear c67
        try clear c67b0
        try clear c68
        try clear c68b0
        try clear c68b1
        try clear c71
        try clear c71b0
        try clear hcz46_0
        try clear hcz46_1
        try clear hcz55_0
        try clear hcz55_1
        try clear hcz65_0
        try clear hcz65_1
        try clear hfz46_0
        try clear hfz46_1
        try clear hfz55_0
        try clear hfz55_1
        try clear hfz65_0
        try clear hfz65_1
        try clear hx178_0
        try clear hx179_0
        try clear hx180_0
        try clear hx181_0
        try clear hx182_0
        try clear hx183_0
        try clear hx184_0
        try clear hx186_0
        try clear p1
        try clear p17
        try clear p178
        try clear p179
        try clear p18
        try clear p180
        try clear p181
        try clear p182
        try clear p183
        try clear p184
        try clear p186
        try clear p2
        try clear p6
        try clear p64
        try clear q1
        try clear q17
        try clear q178
        try clear q179
        try clear q18
        try clear q180
        try clear q181
        try clear q182
        try clear q183
        try clear q184
        try clear q186
        obtain ⟨x116_4, x199000_4, x199001_4, x199002_4, rfl, HA, HK4, HO_198000, HO_198001, BK172, BK173, BK174, BK197, BK198, HB⟩ := hrel
        cases gk with
        | zero => exact absurd HA.out (by simp [conv_Row.l2])
        | succ k4 =>
         have H := HA.out
         clear HA
         simp only [conv_Row.l2] at H
         by_cases c72 : x116_4 < (rd l1_0 2)
         rotate_left
         ·rw [if_neg c72] at H
          have c72b0 : decide (x116_4 < (rd l1_0 2)) = false := decide_eq_false c72
          clear c72
          have H' := Aside0.mk H
          clear H
          go_wp2
          go_roundg k4
          case measure => have := HJ3.out; have := HK2.out; have := HK3.out; have := HK4.out; omega
          case rel => exact ⟨(wrap64 (x112_3 + 1)), (x199000_4), (x199001_4), (x199002_4), z1_, H', ⟨by have := HJ3.out; have := HK2.out; have := HK3.out; have := HK4.out; omega⟩, ⟨zr_ HO_198000.out⟩, ⟨zr_ HO_198001.out⟩, ⟨zb_ BK172⟩, ⟨zb_ BK173⟩, ⟨zb_ BK174⟩, ⟨zb_ BK197⟩, ⟨zb_ BK198⟩, ⟨zw5_ HB GE172 GE173 GE174 GE197 GE198⟩⟩
         rw [if_pos c72] at H
         have c72b0 : decide (x116_4 < (rd l1_0 2)) = true := decide_eq_true c72
         clear c72
         obtain ⟨ji73, hji73⟩ : ∃ j_ : Int, (wrap64 ((wrap64 ((wrap64 (x112_3 * (rd l0_0 1))) + (wrap64 ((Int.tmod x102_2 t185) * a2)))) + x116_4)) = j_ := ⟨_, rfl⟩
         replace H : (if 0 ≤ (ji73) then (if (ji73) < (l0_1.length : Int) then (if 0 ≤ (wrap64 ((wrap64 ((wrap64 ((wrap64 ((wrap64 (Int.tdiv x102_2 t185)) * (rd l0_0 0))) + x112_3)) * (rd l1_0 2))) + x116_4)) then (if (wrap64 ((wrap64 ((wrap64 ((wrap64 ((wrap64 (Int.tdiv x102_2 t185)) * (rd l0_0 0))) + x112_3)) * (rd l1_0 2))) + x116_4)) < (l1_1.length : Int) then ((wide_Acc_Plus.f x199000_4 x199001_4 x199002_4 (rd l0_1 (ji73)) (rd l1_1 (wrap64 ((wrap64 ((wrap64 ((wrap64 ((wrap64 (Int.tdiv x102_2 t185)) * (rd l0_0 0))) + x112_3)) * (rd l1_0 2))) + x116_4)))).bind fun bt203 => (conv_Row.l2 k4 a2 (rd l0_0 0) (rd l0_0 1) (rd l1_0 2) t185 x102_2 (wrap64 (Int.tdiv x102_2 t185)) (Int.tmod x102_2 t185) x112_3 (t193.length : Int) x102_2 (rd l0_0 0) x112_3 (rd l1_0 2) (wrap64 (x116_4 + 1)) l0_0 l0_1 l1_0 l1_1 t190 x198001_2 bt203.1 bt203.2.1 bt203.2.2)) else (none)) else (none)) else (none)) else (none)) = some (r1, r2, r3) := by first | (rw [hji73] at H; exact H) | (simp only [hji73] at H ⊢; exact H)
         have hji73w : (IntKind.i64.wrap ((wrap64 ((wrap64 (x112_3 * (rd l0_0 1))) + (wrap64 ((Int.tmod x102_2 t185) * a2)))) + x116_4)) = ji73 := (i64_w _).trans hji73
         by_cases c74 : 0 ≤ (ji73)
         rotate_left
         ·rw [if_neg c74] at H
          exact absurd H (by simp)
         rw [if_pos c74] at H
         have c74b0 : decide (0 ≤ (ji73)) = true := decide_eq_true c74
         clear c74
         by_cases c75 : (ji73) < (l0_1.length : Int)
         rotate_left
         ·rw [if_neg c75] at H
          exact absurd H (by simp)
         rw [if_pos c75] at H
         have c75b0 : decide ((ji73) < (l0_1.length : Int)) = true := decide_eq_true c75
         clear c75
         obtain ⟨ji76, hji76⟩ : ∃ j_ : Int, (wrap64 ((wrap64 ((wrap64 ((wrap64 ((wrap64 (Int.tdiv x102_2 t185)) * (rd l0_0 0))) + x112_3)) * (rd l1_0 2))) + x116_4)) = j_ := ⟨_, rfl⟩
         replace H : (if 0 ≤ (ji76) then (if (ji76) < (l1_1.length : Int) then ((wide_Acc_Plus.f x199000_4 x199001_4 x199002_4 (rd l0_1 (ji73)) (rd l1_1 (ji76))).bind fun bt203 => (conv_Row.l2 k4 a2 (rd l0_0 0) (rd l0_0 1) (rd l1_0 2) t185 x102_2 (wrap64 (Int.tdiv x102_2 t185)) (Int.tmod x102_2 t185) x112_3 (t193.length : Int) x102_2 (rd l0_0 0) x112_3 (rd l1_0 2) (wrap64 (x116_4 + 1)) l0_0 l0_1 l1_0 l1_1 t190 x198001_2 bt203.1 bt203.2.1 bt203.2.2)) else (none)) else (none)) = some (r1, r2, r3) := by first | (rw [hji76] at H; exact H) | (simp only [hji76] at H ⊢; exact H)
         have hji76w : (IntKind.i64.wrap ((wrap64 ((wrap64 ((wrap64 ((wrap64 (Int.tdiv x102_2 t185)) * (rd l0_0 0))) + x112_3)) * (rd l1_0 2))) + x116_4)) = ji76 := (i64_w _).trans hji76
         by_cases c77 : 0 ≤ (ji76)
         rotate_left
         ·rw [if_neg c77] at H
          exact absurd H (by simp)
         rw [if_pos c77] at H
         have c77b0 : decide (0 ≤ (ji76)) = true := decide_eq_true c77
         clear c77
         by_cases c78 : (ji76) < (l1_1.length : Int)
         rotate_left
         ·rw [if_neg c78] at H
          exact absurd H (by simp)
         rw [if_pos c78] at H
         have c78b0 : decide ((ji76) < (l1_1.length : Int)) = true := decide_eq_true c78
         clear c78
         replace H := Option.bind_eq_some_iff.mp H
         obtain ⟨⟨t203, t204, t205⟩, A790, H⟩ := H
         (try dsimp only at H)
         have A79 := Aside0.mk A790
         clear A790
         have H' := Aside0.mk H
         clear H
         have hnb80 := NB198_172.out
         have hnc80 := NB172_198.out
         have hnb81 := NB198_173.out
         have hnc81 := NB173_198.out
         have hnb82 := NB198_174.out
         have hnc82 := NB174_198.out
         have hnb83 := NB198_197.out
         have hnc83 := NB197_198.out
         have hcz84_0 := zx_ (v := .int .i64 x199000_4) BK198 0
         have hcz84_1 := zx_ (v := .int .i64 x199001_4) BK198 1
         have hcz84_2 := zx_ (v := .int .u64 x199002_4) BK198 2
         have hfz84_0 := blk_frozen BK198.out 0
         have hfz84_1 := blk_frozen BK198.out 1
         have hfz84_2 := blk_frozen BK198.out 2
         try go_wp2
         replace HO_198000 := Aside0.mk (Kd.R_drew HO_198000.out)
         replace HO_198001 := Aside0.mk (Kd.R_drew HO_198001.out)
         replace BK172 := Aside0.mk (blk_drew BK172.out)
         replace BK173 := Aside0.mk (blk_drew BK173.out)
         replace BK174 := Aside0.mk (blk_drew BK174.out)
         replace BK197 := Aside0.mk (blk_drew BK197.out)
         replace BK198 := Aside0.mk (blk_drew BK198.out)
         replace HB := Aside0.mk (below_drew1 HB.out)
         have p201 : 0 ≤ ((ji73) : Int) := of_decide_eq_true (by first | (with_reducible assumption) | assumption)
         have q201 : (ji73) < (l0_1.length : Int) := of_decide_eq_true (by first | (with_reducible assumption) | assumption)
         obtain ⟨ad201, e201, hx201_0⟩ := Kd.at_int HR0_1.out (ji73) p201 q201
         have hw201_0 := hx201_0
         cases e201
         replace hx201_0 := (HB.out.cell (World.block_lt_of_cell? w _ hx201_0)).trans hx201_0
         replace p201 := eq_true p201
         replace q201 := eq_true q201
         have p202 : 0 ≤ ((ji76) : Int) := of_decide_eq_true (by first | (with_reducible assumption) | assumption)
         have q202 : (ji76) < (l1_1.length : Int) := of_decide_eq_true (by first | (with_reducible assumption) | assumption)
         obtain ⟨ad202, e202, hx202_0⟩ := Kd.at_int HR1_1.out (ji76) p202 q202
         have hw202_0 := hx202_0
         cases e202
         replace hx202_0 := (HB.out.cell (World.block_lt_of_cell? w _ hx202_0)).trans hx202_0
         replace p202 := eq_true p202
         replace q202 := eq_true q202
         refine start_ (n := 27) (S := fun w' => w'.cell? ⟨gb172, 0, none⟩ = some (.slice (some ad179) l0_0.length c0_0) ∧ w'.cell? ⟨gb172, 1, none⟩ = some (.slice (some ad201) l0_1.length c0_1) ∧ w'.cell? ⟨gb173, 0, none⟩ = some (.slice (some ad178) l1_0.length c1_0) ∧ w'.cell? ⟨gb173, 1, none⟩ = some (.slice (some ad202) l1_1.length c1_1) ∧ w'.cell? (ad201.add ((ji73)).toNat) = some (.int .i64 (rd l0_1 (ji73))) ∧ w'.cell? (ad202.add ((ji76)).toNat) = some (.int .i64 (rd l1_1 (ji76)))) (ds := [26]) #[false, false, false, false, false, false, false, false, false, false, false, false, false, false, false, false, false, false, false, false, false, false, false, false, false, false, false] (by kernel_rfl) rfl rfl ⟨(blk_cell BK172.out 0).trans rfl, (blk_cell BK172.out 1).trans rfl, (blk_cell BK173.out 0).trans rfl, (blk_cell BK173.out 1).trans rfl, ((HB.out.cell (World.block_lt_of_cell? w _ hw201_0)).trans hw201_0), ((HB.out.cell (World.block_lt_of_cell? w _ hw202_0)).trans hw202_0)⟩ (fun hHeld => ?_); refine with_tabW conv_Row.tab21 conv_Row.bits21 (fun HT_ HW_ => ?_)
         generalize wr.drew = w85 at HO_198000 HO_198001 BK172 BK173 BK174 BK197 BK198 HB hx201_0 hx202_0 hHeld ⊢
         refine yp_ ?_ 0 119
         refine yp_ ?_ 2 121
         refine yp_ ?_ 3 122
         refine yp_ ?_ 4 123
         refine yp_ ?_ 5 124
         refine yp_ ?_ 6 125
         refine yp_ ?_ 7 126
         refine yp_ ?_ 8 127
         refine yp_ ?_ 9 128
         refine yp_ ?_ 10 129
         refine yp_ ?_ 13 132
         refine yp_ ?_ 15 134
         refine yp_ ?_ 16 135
         refine yp_ ?_ 17 136
         refine yp_ ?_ 18 137
         refine yp_ ?_ 19 138
         refine yp_ ?_ 20 139
         refine yp_ ?_ 21 140
         refine yp_ ?_ 22 141
         refine yp_ ?_ 23 142
         refine yt6_ ?_ 1 120
         refine yp_ ?_ 11 130
         refine yt6_ ?_ 12 131
         refine yt6_ ?_ 14 133
         refine yp_ ?_ 24 143
         refine yt6_ ?_ 25 144
         refine yl_ 26 (some 145) (fun K hK => ?_)
         refine goes_ Try.func30 (by kernel_rfl) rfl #[.pointer (some ⟨gb198, 0, none⟩), .int .i64 (rd l0_1 (ji73)), .int .i64 (rd l1_1 (ji76))] (by rfl) rfl rfl (by (try simp only [List.map_toArray, List.map_cons, List.map_nil]); first | done | (simp only [hji73, hji76]; rfl) | rfl | (simp only [List.length_drop, List.length_take]; rfl)) ?_
         with_reducible refine (wide_Acc_Plus.calls gb198 x199000_4 x199001_4 x199002_4 (rd l0_1 (ji73)) (rd l1_1 (ji76)) t203 t204 t205 _ (zb_ BK198) A79.out).mono ?_
         rintro e _ ⟨rfl, w86, hb, rfl⟩
         refine ⟨_, rfl, ?_⟩
         replace HO_198000 := zy_ HO_198000 hb
         replace HO_198001 := zy_ HO_198001 hb
         replace BK172 := za_ BK172 hb
         replace BK173 := za_ BK173 hb
         replace BK174 := za_ BK174 hb
         replace BK197 := za_ BK197 hb
         replace BK198 := za_ BK198 hb
         replace HB := Aside0.mk (below_step (zw5_ HB GE172 GE173 GE174 GE197 GE198) hb)
         (try clear hb)
         (try clear hb2)
         (try clear hk)
         (try clear hi)
         refine hK.out _ _ ?_
         clear hK K
         refine zq_ (some 145) (h := ?_)
         refine done_ (done_of HT_.out (by kernel_rfl)) ?_
         have hcz87_0 := zx_ (v := .int .i64 x199000_4) BK198 0
         have hcz87_1 := zx_ (v := .int .i64 x199001_4) BK198 1
         have hcz87_2 := zx_ (v := .int .u64 x199002_4) BK198 2
         have hfz87_0 := blk_frozen BK198.out 0
         have hfz87_1 := blk_frozen BK198.out 1
         have hfz87_2 := blk_frozen BK198.out 2
         try go_wp2
         go_roundg k4
         case measure => have := HJ3.out; have := HK2.out; have := HK3.out; have := HK4.out; omega
         case rel => exact ⟨(wrap64 (x116_4 + 1)), (t203), (t204), (t205), z1_, H', ⟨by have := HJ3.out; have := HK2.out; have := HK3.out; have := HK4.out; omega⟩, ⟨zr_ (Kd.R_mono (Kd.R_far (p := ⟨gb198, 2, none⟩) (Kd.R_far (p := ⟨gb198, 1, none⟩) (Kd.R_far (p := ⟨gb198, 0, none⟩) (Kd.R_types HO_198000.out BK198.out (by decide)) (fun _ hk => hk.2) (.int .i64 t203)) (fun _ hk => hk.2) (.int .i64 t204)) (fun _ hk => hk.2) (.int .u64 t205)) (fun _ hk => trivial))⟩, ⟨zr_ (Kd.R_mono (Kd.R_far (p := ⟨gb198, 2, none⟩) (Kd.R_far (p := ⟨gb198, 1, none⟩) (Kd.R_far (p := ⟨gb198, 0, none⟩) (Kd.R_types HO_198001.out BK198.out (by decide)) (fun _ hk => hk.2) (.int .i64 t203)) (fun _ hk => hk.2) (.int .i64 t204)) (fun _ hk => hk.2) (.int .u64 t205)) (fun _ hk => trivial))⟩, ⟨zv1_ BK172 NB172_198⟩, ⟨zv1_ BK173 NB173_198⟩, ⟨zv1_ BK174 NB174_198⟩, ⟨zv1_ BK197 NB197_198⟩, ⟨zo3_ BK198⟩, ⟨zw5_ HB GE172 GE173 GE174 GE197 GE198⟩⟩

end Go.Proofs.Ytcipfhlcgnomaaa.PConvKnown
