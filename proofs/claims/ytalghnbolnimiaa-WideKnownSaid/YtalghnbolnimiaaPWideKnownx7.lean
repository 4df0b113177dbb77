/- The functions that the law WideKnown reaches, as Lean functions, and that each call of the Go function does what its Lean function says, wherever that one answers. Written by a program of mine over the print of the kit; Lean checks it. -/
import Derived.Test.YtalghnbolnimiaaPWideKnownx0
import Derived.Test.YtalghnbolnimiaaPWideKnownx1
import Derived.Test.YtalghnbolnimiaaPWideKnownx2
import Derived.Test.YtalghnbolnimiaaPWideKnownx4
import Derived.Test.YtalghnbolnimiaaPWideKnownx5
import Derived.Test.YtalghnbolnimiaaPWideKnownx6
namespace Go.Proofs.Ytalghnbolnimiaa.PWideKnown
open Go.RowKit Go.Proofs.YtalghnbolnimiaaW.PrintWords Go.Proofs.YtalghnbolnimiaaW.PrintLast Go.Proofs.YtalghnbolnimiaaW.PrintMore
attribute [local go_sem] max2_int min2_int max_two min_two max_three min_three max_four min_four   -- for this text's walks alone
set_option linter.unusedVariables false
set_option linter.unusedSimpArgs false

attribute [local go_sem high] eqA25
/-! ### carousellaw2_WideKnown: function 10 -/
def carousellaw2_WideKnown.f (k : Nat)  : Option (Bool) := (carousellaw2_awake.f k).bind fun t194 => (if t194 = true then (if 15 ≤ 281474976710656 then ((wide_Get.f (List.replicate 15 0)).bind fun bt198 => (if bt198.2.2 = 3 then ((wide_Neg.f (-9223372036854775808) 0).bind fun bt203 => (if (bt203.1 == (-9223372036854775808) && (bt203.2 == 0)) = true then ((wide_Fix.f k 1 0).bind fun t205 => (if t205 = 9223372036854775807 then ((wide_Fix.f k (-2) 0).bind fun t206 => (if t206 = (-9223372036854775808) then ((wide_Of.f 7).bind fun bt207 => ((wide_Over.f k bt207.1 bt207.2 0).bind fun t209 => (if t209 = 9223372036854775807 then ((wide_Of.f 5).bind fun bt210 => ((wide_Over.f k bt210.1 bt210.2 2).bind fun t212 => (if t212 = 2 then ((wide_Of.f (-7)).bind fun bt213 => ((wide_Over.f k bt213.1 bt213.2 2).bind fun t215 => (if t215 = (-4) then ((wide_Of.f 5).bind fun bt216 => ((wide_Shift.f k bt216.1 bt216.2 1).bind fun bt218 => ((wide_Of.f 2).bind fun bt220 => (if (bt218.1 == bt220.1 && (bt218.2 == bt220.2)) = true then ((wide_Of.f 5).bind fun bt222 => ((wide_Shift.f k bt222.1 bt222.2 0).bind fun bt224 => ((wide_Of.f 5).bind fun bt226 => (if (bt224.1 == bt226.1 && (bt224.2 == bt226.2)) = true then ((wide_Of.f 0).bind fun bt228 => ((wide_Cmp.f k (-9223372036854775808) 0 bt228.1 bt228.2).bind fun t230 => (some (t230 == (-1))))) else (none))))) else (none))))) else (none)))) else (none)))) else (none)))) else (none))) else (none))) else (none))) else (none))) else (none)) else (none))
theorem carousellaw2_WideKnown.mono : ∀ k, LeO (carousellaw2_WideKnown.f k ) (carousellaw2_WideKnown.f (k + 1) ) := by
 intro  k
 unfold carousellaw2_WideKnown.f
 repeat' first
   | (with_reducible exact carousellaw2_awake.mono _)
   | (with_reducible exact wide_Cmp.mono _ _ _ _ _)
   | (with_reducible exact wide_Fix.mono _ _ _)
   | (with_reducible exact wide_Over.mono _ _ _ _)
   | (with_reducible exact wide_Shift.mono _ _ _ _)
   | (with_reducible exact LeO.refl _)
   | (with_reducible exact LeO.none _)
   | (with_reducible refine LeO.ite ?_ ?_)
   | (with_reducible refine LeO.bind ?_ (fun _ => ?_))
   | exact carousellaw2_awake.mono _
   | exact wide_Cmp.mono _ _ _ _ _
   | exact wide_Fix.mono _ _ _
   | exact wide_Over.mono _ _ _ _
   | exact wide_Shift.mono _ _ _ _
   | exact LeO.none _
   | refine LeO.ite ?_ ?_
   | refine LeO.bind ?_ (fun _ => ?_)
def carousellaw2_WideKnown.T5 : Bool × List (List Nat × List Nat) := (true, [([], []), ([0], [0]), ([1], [1]), ([2], [2]), ([3, 2, 2], [2, 3]), ([2], [2]), ([4, 5, 2], [2, 4, 5]), ([2, 6], [2, 6]), ([7, 4], [7]), ([8], [8]), ([9, 8, 8], [8, 9]), ([10, 8], [8, 10]), ([8, 11], [8, 11]), ([12, 10], [12]), ([13], [13]), ([14, 13, 13], [13, 14]), ([15, 13], [13, 15]), ([13, 16], [13, 16]), ([17, 15], [17]), ([18, 18], [18]), ([19, 19, 18], [18, 19]), ([20, 18], [18, 20]), ([18, 21], [18, 21]), ([22, 20], [22]), ([23, 23], [23]), ([24, 24, 23], [23, 24]), ([25, 23], [23, 25]), ([23, 26], [23, 26]), ([27, 25], [27]), ([28, 28], [28]), ([29, 29, 28], [28, 29]), ([30, 28], [28, 30]), ([28, 31], [28, 31]), ([32, 30], [32]), ([33, 33], [33]), ([34, 34, 33], [33, 34]), ([35, 33], [33]), ([35, 36, 33], [33, 35, 36]), ([33, 37], [33, 37]), ([38, 36], [38]), ([39, 39], [39]), ([40, 40, 39], [39, 40]), ([41, 39], [39]), ([41, 42, 39], [39, 41, 42]), ([39, 43], [39, 43]), ([44, 42], [44]), ([45], [45]), ([45, 45], [45]), ([46, 47, 47, 45], [45, 46, 47]), ([48, 45], [45, 48]), ([45, 49], [45, 49]), ([50, 48, 0, 1, 2, 3, 4, 5, 6, 7, 8, 9, 10, 11, 12, 13, 14, 15, 16, 17, 18, 19, 20, 21, 22, 23, 24, 25, 26, 27, 28, 29, 30, 31, 32, 33, 34, 35, 36, 37, 38, 39, 40, 41, 42, 43, 44, 45, 46, 47, 48, 49, 50], [50])])
def carousellaw2_WideKnown.B5 : List Nat := [0, 1, 3, 7, 15, 7, 63, 127, 255, 511, 1023, 2047, 4095, 8191, 16383, 32767, 65535, 131071, 262143, 524287, 1048575, 2097151, 4194303, 8388607, 16777215, 33554431, 67108863, 134217727, 268435455, 536870911, 1073741823, 2147483647, 4294967295, 8589934591, 17179869183, 34359738367, 68719476735, 137438953471, 274877906943, 549755813887, 1099511627775, 2199023255551, 4398046511103, 8796093022207, 17592186044415, 35184372088831, 70368744177663, 70368744177663, 281474976710655, 562949953421311, 1125899906842623, 2251799813685247]
theorem carousellaw2_WideKnown.tab5 : rtab .any (opsOf Try.f10 5) = carousellaw2_WideKnown.T5 := by kernel_rfl
theorem carousellaw2_WideKnown.bits5 : waitsOk carousellaw2_WideKnown.T5.2 carousellaw2_WideKnown.B5 = true := by kernel_rfl
set_option maxHeartbeats 8000000 in
set_option maxRecDepth 100000 in
theorem carousellaw2_WideKnown.calls (k : Nat)  (r : Bool) (w : World) (h : carousellaw2_WideKnown.f k  = some r) :
  Calls Try.prog 10 #[] w fun e w' => e = .returned (.bool r) ∧ Below w.heap.size w w' := by
 have hu25 := Try.underlying25
 have HB := Aside0.mk (Below.refl w.heap.size w)
 have H : ((carousellaw2_awake.f k).bind fun t194 => (if t194 = true then (if 15 ≤ 281474976710656 then ((wide_Get.f (List.replicate 15 0)).bind fun bt198 => (if bt198.2.2 = 3 then ((wide_Neg.f (-9223372036854775808) 0).bind fun bt203 => (if (bt203.1 == (-9223372036854775808) && (bt203.2 == 0)) = true then ((wide_Fix.f k 1 0).bind fun t205 => (if t205 = 9223372036854775807 then ((wide_Fix.f k (-2) 0).bind fun t206 => (if t206 = (-9223372036854775808) then ((wide_Of.f 7).bind fun bt207 => ((wide_Over.f k bt207.1 bt207.2 0).bind fun t209 => (if t209 = 9223372036854775807 then ((wide_Of.f 5).bind fun bt210 => ((wide_Over.f k bt210.1 bt210.2 2).bind fun t212 => (if t212 = 2 then ((wide_Of.f (-7)).bind fun bt213 => ((wide_Over.f k bt213.1 bt213.2 2).bind fun t215 => (if t215 = (-4) then ((wide_Of.f 5).bind fun bt216 => ((wide_Shift.f k bt216.1 bt216.2 1).bind fun bt218 => ((wide_Of.f 2).bind fun bt220 => (if (bt218.1 == bt220.1 && (bt218.2 == bt220.2)) = true then ((wide_Of.f 5).bind fun bt222 => ((wide_Shift.f k bt222.1 bt222.2 0).bind fun bt224 => ((wide_Of.f 5).bind fun bt226 => (if (bt224.1 == bt226.1 && (bt224.2 == bt226.2)) = true then ((wide_Of.f 0).bind fun bt228 => ((wide_Cmp.f k (-9223372036854775808) 0 bt228.1 bt228.2).bind fun t230 => (some (t230 == (-1))))) else (none))))) else (none))))) else (none)))) else (none)))) else (none)))) else (none))) else (none))) else (none))) else (none))) else (none)) else (none))) = some r := h
 clear h
 replace H := Option.bind_eq_some_iff.mp H
 obtain ⟨t194, A10, H⟩ := H
 (try dsimp only at H)
 have A1 := Aside0.mk A10
 clear A10
 by_cases c2 : t194 = true
 rotate_left
 ·replace c2 := Bool.eq_false_iff.mpr c2
  subst c2
  have H1 : (none) = some r := by rw [if_neg (show ¬ (false = true) by decide)] at H; exact H
  clear H
  have H := H1
  clear H1
  exact absurd H (by simp)
 subst c2
 have H1 := H
 rw [if_pos rfl] at H1
 clear H
 have H := H1
 clear H1
 by_cases c3 : 15 ≤ 281474976710656
 rotate_left
 ·rw [if_neg c3] at H
  exact absurd H (by simp)
 rw [if_pos c3] at H
 have c3b0 := eq_true c3
 have c3b1 : decide (15 ≤ 281474976710656) = true := decide_eq_true c3
 clear c3
 obtain ⟨y195, hy195⟩ : ∃ y_ : List Int, y_ = (List.replicate 15 0) := ⟨_, rfl⟩
 replace H : ((wide_Get.f y195).bind fun bt198 => (if bt198.2.2 = 3 then ((wide_Neg.f (-9223372036854775808) 0).bind fun bt203 => (if (bt203.1 == (-9223372036854775808) && (bt203.2 == 0)) = true then ((wide_Fix.f k 1 0).bind fun t205 => (if t205 = 9223372036854775807 then ((wide_Fix.f k (-2) 0).bind fun t206 => (if t206 = (-9223372036854775808) then ((wide_Of.f 7).bind fun bt207 => ((wide_Over.f k bt207.1 bt207.2 0).bind fun t209 => (if t209 = 9223372036854775807 then ((wide_Of.f 5).bind fun bt210 => ((wide_Over.f k bt210.1 bt210.2 2).bind fun t212 => (if t212 = 2 then ((wide_Of.f (-7)).bind fun bt213 => ((wide_Over.f k bt213.1 bt213.2 2).bind fun t215 => (if t215 = (-4) then ((wide_Of.f 5).bind fun bt216 => ((wide_Shift.f k bt216.1 bt216.2 1).bind fun bt218 => ((wide_Of.f 2).bind fun bt220 => (if (bt218.1 == bt220.1 && (bt218.2 == bt220.2)) = true then ((wide_Of.f 5).bind fun bt222 => ((wide_Shift.f k bt222.1 bt222.2 0).bind fun bt224 => ((wide_Of.f 5).bind fun bt226 => (if (bt224.1 == bt226.1 && (bt224.2 == bt226.2)) = true then ((wide_Of.f 0).bind fun bt228 => ((wide_Cmp.f k (-9223372036854775808) 0 bt228.1 bt228.2).bind fun t230 => (some (t230 == (-1))))) else (none))))) else (none))))) else (none)))) else (none)))) else (none)))) else (none))) else (none))) else (none))) else (none))) = some r := by first | (rw [hy195]; with_reducible exact H) | (have H2_ := (Option.bind_some _ _).symm.trans H; rw [hy195]; with_reducible exact H2_) | (have H2_ := (Option.bind_some _ _).symm.trans H; with_reducible exact H2_) | with_reducible exact H | (rw [hy195]; exact H) | exact H
 have Ny195 := Aside0.mk hy195
 clear hy195
 replace H := Option.bind_eq_some_iff.mp H
 obtain ⟨⟨t198, t199, t200⟩, A40, H⟩ := H
 (try dsimp only at H)
 have A4 := Aside0.mk A40
 clear A40
 by_cases c5 : t200 = 3
 rotate_left
 ·rw [if_neg c5] at H
  have c5b0 : (t200 == 3) = false := beq_eq_false_iff_ne.mpr c5
  have c5b1 : (t200 != 3) = true := bne_iff_ne.mpr c5
  exact absurd H (by simp)
 rw [if_pos c5] at H
 have c5b0 : (t200 == 3) = true := beq_iff_eq.mpr c5
 have c5b1 : (t200 != 3) = false := bne_eq_false_iff_eq.mpr c5
 clear c5
 replace H := Option.bind_eq_some_iff.mp H
 obtain ⟨⟨t203, t204⟩, A60, H⟩ := H
 (try dsimp only at H)
 have A6 := Aside0.mk A60
 clear A60
 by_cases c7 : (t203 == (-9223372036854775808) && (t204 == 0)) = true
 rotate_left
 ·rw [if_neg c7] at H
  have c7b0 : (t203 == (-9223372036854775808) && (t204 == 0)) = false := by simpa using c7
  (try (have c7b1 : decide (t203 = (-9223372036854775808) && (t204 == 0)) = false := by simpa using c7))
  (try (have c7b2 : (t203 == (-9223372036854775808) && (t204 == 0)) = false := by simpa using c7))
  (try (have c7b3 : ¬ (t203 = (-9223372036854775808) && (t204 == 0)) := by simpa using c7))
  clear c7
  exact absurd H (by simp)
 rw [if_pos c7] at H
 have c7b0 : (t203 == (-9223372036854775808) && (t204 == 0)) = true := c7
 (try (have c7b1 : decide (t203 = (-9223372036854775808) && (t204 == 0)) = true := by simpa using c7))
 (try (have c7b2 : (t203 == (-9223372036854775808) && (t204 == 0)) = true := by simpa using c7))
 clear c7
 replace H := Option.bind_eq_some_iff.mp H
 obtain ⟨t205, A80, H⟩ := H
 (try dsimp only at H)
 have A8 := Aside0.mk A80
 clear A80
 by_cases c9 : t205 = 9223372036854775807
 rotate_left
 ·rw [if_neg c9] at H
  have c9b0 : (t205 == 9223372036854775807) = false := beq_eq_false_iff_ne.mpr c9
  have c9b1 : (t205 != 9223372036854775807) = true := bne_iff_ne.mpr c9
  exact absurd H (by simp)
 rw [if_pos c9] at H
 have c9b0 : (t205 == 9223372036854775807) = true := beq_iff_eq.mpr c9
 have c9b1 : (t205 != 9223372036854775807) = false := bne_eq_false_iff_eq.mpr c9
 clear c9
 replace H := Option.bind_eq_some_iff.mp H
 obtain ⟨t206, A100, H⟩ := H
 (try dsimp only at H)
 have A10 := Aside0.mk A100
 clear A100
 by_cases c11 : t206 = (-9223372036854775808)
 rotate_left
 ·rw [if_neg c11] at H
  have c11b0 : (t206 == (-9223372036854775808)) = false := beq_eq_false_iff_ne.mpr c11
  have c11b1 : (t206 != (-9223372036854775808)) = true := bne_iff_ne.mpr c11
  exact absurd H (by simp)
 rw [if_pos c11] at H
 have c11b0 : (t206 == (-9223372036854775808)) = true := beq_iff_eq.mpr c11
 have c11b1 : (t206 != (-9223372036854775808)) = false := bne_eq_false_iff_eq.mpr c11
 clear c11
 replace H := Option.bind_eq_some_iff.mp H
 obtain ⟨⟨t207, t208⟩, A120, H⟩ := H
 (try dsimp only at H)
 have A12 := Aside0.mk A120
 clear A120
 replace H := Option.bind_eq_some_iff.mp H
 obtain ⟨t209, A130, H⟩ := H
 (try dsimp only at H)
 have A13 := Aside0.mk A130
 clear A130
 by_cases c14 : t209 = 9223372036854775807
 rotate_left
 ·rw [if_neg c14] at H
  have c14b0 : (t209 == 9223372036854775807) = false := beq_eq_false_iff_ne.mpr c14
  have c14b1 : (t209 != 9223372036854775807) = true := bne_iff_ne.mpr c14
  exact absurd H (by simp)
 rw [if_pos c14] at H
 have c14b0 : (t209 == 9223372036854775807) = true := beq_iff_eq.mpr c14
 have c14b1 : (t209 != 9223372036854775807) = false := bne_eq_false_iff_eq.mpr c14
 clear c14
 replace H := Option.bind_eq_some_iff.mp H
 obtain ⟨⟨t210, t211⟩, A150, H⟩ := H
 (try dsimp only at H)
 have A15 := Aside0.mk A150
 clear A150
 replace H := Option.bind_eq_some_iff.mp H
 obtain ⟨t212, A160, H⟩ := H
 (try dsimp only at H)
 have A16 := Aside0.mk A160
 clear A160
 by_cases c17 : t212 = 2
 rotate_left
 ·rw [if_neg c17] at H
  have c17b0 : (t212 == 2) = false := beq_eq_false_iff_ne.mpr c17
  have c17b1 : (t212 != 2) = true := bne_iff_ne.mpr c17
  exact absurd H (by simp)
 rw [if_pos c17] at H
 have c17b0 : (t212 == 2) = true := beq_iff_eq.mpr c17
 have c17b1 : (t212 != 2) = false := bne_eq_false_iff_eq.mpr c17
 clear c17
 replace H := Option.bind_eq_some_iff.mp H
 obtain ⟨⟨t213, t214⟩, A180, H⟩ := H
 (try dsimp only at H)
 have A18 := Aside0.mk A180
 clear A180
 replace H := Option.bind_eq_some_iff.mp H
 obtain ⟨t215, A190, H⟩ := H
 (try dsimp only at H)
 have A19 := Aside0.mk A190
 clear A190
 by_cases c20 : t215 = (-4)
 rotate_left
 ·rw [if_neg c20] at H
  have c20b0 : (t215 == (-4)) = false := beq_eq_false_iff_ne.mpr c20
  have c20b1 : (t215 != (-4)) = true := bne_iff_ne.mpr c20
  exact absurd H (by simp)
 rw [if_pos c20] at H
 have c20b0 : (t215 == (-4)) = true := beq_iff_eq.mpr c20
 have c20b1 : (t215 != (-4)) = false := bne_eq_false_iff_eq.mpr c20
 clear c20
 replace H := Option.bind_eq_some_iff.mp H
 obtain ⟨⟨t216, t217⟩, A210, H⟩ := H
 (try dsimp only at H)
 have A21 := Aside0.mk A210
 clear A210
 replace H := Option.bind_eq_some_iff.mp H
 obtain ⟨⟨t218, t219⟩, A220, H⟩ := H
 (try dsimp only at H)
 have A22 := Aside0.mk A220
 clear A220
 replace H := Option.bind_eq_some_iff.mp H
 obtain ⟨⟨t220, t221⟩, A230, H⟩ := H
 (try dsimp only at H)
 have A23 := Aside0.mk A230
 clear A230
 by_cases c24 : (t218 == t220 && (t219 == t221)) = true
 rotate_left
 ·rw [if_neg c24] at H
  have c24b0 : (t218 == t220 && (t219 == t221)) = false := by simpa using c24
  (try (have c24b1 : decide (t218 = t220 && (t219 == t221)) = false := by simpa using c24))
  (try (have c24b2 : (t218 == t220 && (t219 == t221)) = false := by simpa using c24))
  (try (have c24b3 : ¬ (t218 = t220 && (t219 == t221)) := by simpa using c24))
  clear c24
  exact absurd H (by simp)
 rw [if_pos c24] at H
 have c24b0 : (t218 == t220 && (t219 == t221)) = true := c24
 (try (have c24b1 : decide (t218 = t220 && (t219 == t221)) = true := by simpa using c24))
 (try (have c24b2 : (t218 == t220 && (t219 == t221)) = true := by simpa using c24))
 clear c24
 replace H := Option.bind_eq_some_iff.mp H
 obtain ⟨⟨t222, t223⟩, A250, H⟩ := H
 (try dsimp only at H)
 have A25 := Aside0.mk A250
 clear A250
 replace H := Option.bind_eq_some_iff.mp H
 obtain ⟨⟨t224, t225⟩, A260, H⟩ := H
 (try dsimp only at H)
 have A26 := Aside0.mk A260
 clear A260
 replace H := Option.bind_eq_some_iff.mp H
 obtain ⟨⟨t226, t227⟩, A270, H⟩ := H
 (try dsimp only at H)
 have A27 := Aside0.mk A270
 clear A270
 by_cases c28 : (t224 == t226 && (t225 == t227)) = true
 rotate_left
 ·rw [if_neg c28] at H
  have c28b0 : (t224 == t226 && (t225 == t227)) = false := by simpa using c28
  (try (have c28b1 : decide (t224 = t226 && (t225 == t227)) = false := by simpa using c28))
  (try (have c28b2 : (t224 == t226 && (t225 == t227)) = false := by simpa using c28))
  (try (have c28b3 : ¬ (t224 = t226 && (t225 == t227)) := by simpa using c28))
  clear c28
  exact absurd H (by simp)
 rw [if_pos c28] at H
 have c28b0 : (t224 == t226 && (t225 == t227)) = true := c28
 (try (have c28b1 : decide (t224 = t226 && (t225 == t227)) = true := by simpa using c28))
 (try (have c28b2 : (t224 == t226 && (t225 == t227)) = true := by simpa using c28))
 clear c28
 replace H := Option.bind_eq_some_iff.mp H
 obtain ⟨⟨t228, t229⟩, A290, H⟩ := H
 replace H : ((wide_Cmp.f k (-9223372036854775808) 0 t228 t229).bind fun t230 => (some (t230 == (-1)))) = some r := H
 have A29 := Aside0.mk A290
 clear A290
 replace H := Option.bind_eq_some_iff.mp H
 obtain ⟨t230, A300, H⟩ := H
 replace H : (some (t230 == (-1))) = some r := H
 have A30 := Aside0.mk A300
 clear A300
 obtain rfl := Option.some.inj H
 go_enter Try.func10, Try.ntmps10
 try go_wp2_with (first | ((with_reducible refine gate_callee (f := 11) rfl ?_); refine zg_ (some 4) Try.func11 #[] (h := ?_); (with_reducible refine (carousellaw2_awake.calls k  true _ A1.out).mono ?_); rintro e w31 ⟨rfl, hb⟩; refine ⟨_, rfl, ?_⟩; replace HB := Aside0.mk (below_step (zw0_ HB) hb); (try clear hb)) | ((with_reducible refine gate_dst (N := 7) rfl ?_); refine Kd.R_make (Kd.int .u8) _ 5 rfl (N := 7) rfl 47 _ _ rfl 15 rfl rfl Try.underlying47 (.int .u8 0) 1 info5 rfl (by decide) (by omega) 0 (ok := fun _ => True) (okp := fun _ => True) rfl (fun _ hk => hk) trivial (by omega) (by omega) (Below.refl _ _) (Nat.le_refl _) ?_; intro v196 w32 ho33 hb hg_ hnew_; clear hg_ hnew_; (first | rw [← Ny195.out] at ho33 | (simp only [Int.reduceToNat] at ho33; rw [← Ny195.out] at ho33)); have HO197 := Aside0.mk (Kd.R_lower ho33 (below_size (zw0_ HB))); replace HB := Aside0.mk (below_step (zw0_ HB) hb); clear hb ho33; obtain ⟨Ao34, co34, eo34⟩ := Kd.R_slice HO197.out; subst eo34) | ((with_reducible refine gate_callee (f := 25) rfl ?_); refine zg_ (some 8) Try.func25 #[.slice Ao34 y195.length co34] (h := ?_); (with_reducible refine (wide_Get.calls _ _ y195 t198 t199 t200 _ ?side1 ?side2 A4.out).mono ?_); (case side1 => exact zk_ ((Kd.R_reads' HO197.out).2.2)); (case side2 => exact (Kd.R_reads' HO197.out).2.1); rintro e w35 ⟨rfl, hb⟩; refine ⟨_, rfl, ?_⟩; replace HO197 := zy_ HO197 hb; replace HB := Aside0.mk (below_step (zw0_ HB) hb); (try clear hb)) | ((with_reducible refine gate_dst (N := 1) rfl ?_); refine box_event ?hg (N := 1) ?hd (cs := #[.int .i64 0, .int .u64 0]) (t := 25) ?hr ?_; (case hd => rfl); (case hg => rfl); (case hr => first | (go_simp; done) | (go_simp; rfl)); intro gb201 hg w36 hbox hb; replace HO197 := zy_ HO197 hb; have BK201 := Aside0.mk (hbox); have GW201 := Aside0.mk (zs_ hg (zw0_ HB)); have GE201 := Aside0.mk (zs_ hg (zw0_ HB)); replace HB := Aside0.mk (below_step (zw0_ HB) hb); clear hb hbox hg; have hcz37_0 := zx_ (v := .int .i64 0) BK201 0; have hcz37_1 := zx_ (v := .int .u64 0) BK201 1; have hfz37_0 := blk_frozen BK201.out 0; have hfz37_1 := blk_frozen BK201.out 1) | ((with_reducible refine gate_dst (N := 3) rfl ?_); refine box_event ?hg (N := 3) ?hd (cs := #[.int .i64 0, .int .u64 0]) (t := 25) ?hr ?_; (case hd => rfl); (case hg => rfl); (case hr => first | (go_simp; done) | (go_simp; rfl)); intro gb202 hg w38 hbox hb; replace HO197 := Aside0.mk (Kd.R_below (zr_ ((zf_ HO197 BK201 (.int .i64 t198) (.int .u64 t199)))) hb); have BK202 := Aside0.mk (hbox); have GW202 := Aside0.mk (zs_ hg (zw1_ HB GE201)); have GE202 := Aside0.mk (zs_ hg (zw1_ HB GE201)); replace HB := Aside0.mk (below_step (zw1_ HB GE201) hb); have NB201_202 := Aside0.mk ((by rw [hg]; exact Nat.ne_of_lt (blk_lt (g := gb201) (o := .cells #[.int .i64 t198, .int .u64 t199] 25 (0, 0)) (zo2_ BK201)) : gb201 ≠ gb202)); have NB202_201 := Aside0.mk ((by rw [hg]; exact Nat.ne_of_gt (blk_lt (g := gb201) (o := .cells #[.int .i64 t198, .int .u64 t199] 25 (0, 0)) (zo2_ BK201)) : gb202 ≠ gb201)); replace BK201 := Aside0.mk (blk_below (g := gb201) (o := .cells #[.int .i64 t198, .int .u64 t199] 25 (0, 0)) (zo2_ BK201) hb); clear hb hbox hg; have hnb39 := NB202_201.out; have hnc39 := NB201_202.out; have hcz40_0 := zx_ (v := .int .i64 0) BK202 0; have hcz40_1 := zx_ (v := .int .u64 0) BK202 1; have hfz40_0 := blk_frozen BK202.out 0; have hfz40_1 := blk_frozen BK202.out 1))
 have n0_ : Aside0 (Kd.R (Kd.int .u8) 5 ((w38.setCell ⟨gb202, 0, none⟩ (.int .i64 (-9223372036854775808))).setCell ⟨gb202, 1, none⟩ (.int .u64 0)) w.heap.size (fun _ => True) (.slice Ao34 y195.length co34) y195) := ⟨zr_ (Kd.R_mono (Kd.R_far (p := ⟨gb202, 1, none⟩) (Kd.R_far (p := ⟨gb202, 0, none⟩) (Kd.R_types HO197.out BK202.out (by decide)) (fun _ hk => hk.2) (.int .i64 (-9223372036854775808))) (fun _ hk => hk.2) (.int .u64 0)) (fun _ hk => trivial))⟩
 have n1_ : Aside0 (((w38.setCell ⟨gb202, 0, none⟩ (.int .i64 (-9223372036854775808))).setCell ⟨gb202, 1, none⟩ (.int .u64 0)).heap[gb201]? = some (.cells #[.int .i64 t198, .int .u64 t199] 25 (0, 0))) := ⟨zv1_ BK201 NB201_202⟩
 have n2_ : Aside0 (((w38.setCell ⟨gb202, 0, none⟩ (.int .i64 (-9223372036854775808))).setCell ⟨gb202, 1, none⟩ (.int .u64 0)).heap[gb202]? = some (.cells #[.int .i64 (-9223372036854775808), .int .u64 0] 25 (0, 0))) := ⟨zo2_ BK202⟩
 have n3_ : Aside0 (Below w.heap.size w ((w38.setCell ⟨gb202, 0, none⟩ (.int .i64 (-9223372036854775808))).setCell ⟨gb202, 1, none⟩ (.int .u64 0))) := ⟨zw2_ HB GE201 GE202⟩
 (try clear HO197)
 (try clear BK201)
 (try clear BK202)
 (try clear HB)
 generalize ((w38.setCell ⟨gb202, 0, none⟩ (.int .i64 (-9223372036854775808))).setCell ⟨gb202, 1, none⟩ (.int .u64 0)) = w41 at n0_ n1_ n2_ n3_ ⊢
 have HO197 := n0_
 have BK201 := n1_
 have BK202 := n2_
 have HB := n3_
 clear n0_ n1_ n2_ n3_
 replace HO197 := Aside0.mk (Kd.R_drew HO197.out)
 replace BK201 := Aside0.mk (blk_drew BK201.out)
 replace BK202 := Aside0.mk (blk_drew BK202.out)
 replace HB := Aside0.mk (below_drew1 HB.out)
 refine start_ (n := 52) (S := fun w' => w'.cell? ⟨gb202, 0, none⟩ = some (.int .i64 (-9223372036854775808)) ∧ w'.cell? ⟨gb202, 1, none⟩ = some (.int .u64 0)) (ds := []) #[false, false, false, false, false, false, false, false, false, false, false, false, false, false, false, false, false, false, false, false, false, false, false, false, false, false, false, false, false, false, false, false, false, false, false, false, false, false, false, false, false, false, false, false, false, false, false, false, false, false, false, false] (by kernel_rfl) rfl rfl ⟨(blk_cell BK202.out 0).trans rfl, (blk_cell BK202.out 1).trans rfl⟩ (fun hHeld => ?_); refine with_tabW carousellaw2_WideKnown.tab5 carousellaw2_WideKnown.bits5 (fun HT_ HW_ => ?_)
 generalize w41.drew = w42 at HO197 BK201 BK202 HB hHeld ⊢
 refine yp_ ?_ 0 12
 refine yp_ ?_ 1 13
 refine yp_ ?_ 2 14
 refine yt2_ ?_ 3 15
 refine yt2_ ?_ 5 17
 refine yo_ 4 (some 16) (fun K hK => ?_)
 refine yg_ Try.func18 #[.agg #[.int .i64 (-9223372036854775808), .int .u64 0]] ?_
 with_reducible refine (wide_Neg.calls (-9223372036854775808) 0 t203 t204 _ A6.out).mono ?_
 rintro e w43 ⟨rfl, hb⟩
 refine ⟨_, rfl, ?_⟩
 replace HO197 := zy_ HO197 hb
 replace BK201 := za_ BK201 hb
 replace BK202 := za_ BK202 hb
 replace HB := Aside0.mk (below_step (zw2_ HB GE201 GE202) hb)
 (try clear hb)
 (try clear hb2)
 (try clear hk)
 (try clear hi)
 refine hK.out _ _ ⟨zx_ BK202 0, zx_ BK202 1⟩ (fun hHeld => ?_)
 clear hK K
 refine zq_ (some 16) (h := ?_)
 refine yp_ ?_ 6 18
 refine yp_ ?_ 7 19
 refine yp_ ?_ 8 20
 refine yp_ ?_ 9 21
 refine yo_ 10 (some 22) (fun K hK => ?_)
 refine yg_ Try.func21 #[.agg #[.int .i64 1, .int .u64 0]] ?_
 with_reducible refine (wide_Fix.calls k 1 0 t205 _ A8.out).mono ?_
 rintro e w44 ⟨rfl, hb⟩
 refine ⟨_, rfl, ?_⟩
 replace HO197 := zy_ HO197 hb
 replace BK201 := za_ BK201 hb
 replace BK202 := za_ BK202 hb
 replace HB := Aside0.mk (below_step (zw2_ HB GE201 GE202) hb)
 (try clear hb)
 (try clear hb2)
 (try clear hk)
 (try clear hi)
 refine hK.out _ _ ⟨zx_ BK202 0, zx_ BK202 1⟩ (fun hHeld => ?_)
 clear hK K
 refine zq_ (some 22) (h := ?_)
 refine yp_ ?_ 11 23
 refine yp_ ?_ 12 24
 refine yp_ ?_ 13 25
 refine yp_ ?_ 14 26
 refine yo_ 15 (some 27) (fun K hK => ?_)
 refine yg_ Try.func21 #[.agg #[.int .i64 (-2), .int .u64 0]] ?_
 with_reducible refine (wide_Fix.calls k (-2) 0 t206 _ A10.out).mono ?_
 rintro e w45 ⟨rfl, hb⟩
 refine ⟨_, rfl, ?_⟩
 replace HO197 := zy_ HO197 hb
 replace BK201 := za_ BK201 hb
 replace BK202 := za_ BK202 hb
 replace HB := Aside0.mk (below_step (zw2_ HB GE201 GE202) hb)
 (try clear hb)
 (try clear hb2)
 (try clear hk)
 (try clear hi)
 refine hK.out _ _ ⟨zx_ BK202 0, zx_ BK202 1⟩ (fun hHeld => ?_)
 clear hK K
 refine zq_ (some 27) (h := ?_)
 refine yp_ ?_ 16 28
 refine yp_ ?_ 17 29
 refine yp_ ?_ 18 30
 refine yo_ 19 (some 31) (fun K hK => ?_)
 refine yg_ Try.func14 #[.int .i64 7] ?_
 with_reducible refine (wide_Of.calls 7 t207 t208 _ A12.out).mono ?_
 rintro e w46 ⟨rfl, hb⟩
 refine ⟨_, rfl, ?_⟩
 replace HO197 := zy_ HO197 hb
 replace BK201 := za_ BK201 hb
 replace BK202 := za_ BK202 hb
 replace HB := Aside0.mk (below_step (zw2_ HB GE201 GE202) hb)
 (try clear hb)
 (try clear hb2)
 (try clear hk)
 (try clear hi)
 refine hK.out _ _ ⟨zx_ BK202 0, zx_ BK202 1⟩ (fun hHeld => ?_)
 clear hK K
 refine zq_ (some 31) (h := ?_)
 refine yo_ 20 (some 32) (fun K hK => ?_)
 refine yg_ Try.func34 #[.agg #[.int .i64 t207, .int .u64 t208], .int .i64 0] ?_
 with_reducible refine (wide_Over.calls k t207 t208 0 t209 _ A13.out).mono ?_
 rintro e w47 ⟨rfl, hb⟩
 refine ⟨_, rfl, ?_⟩
 replace HO197 := zy_ HO197 hb
 replace BK201 := za_ BK201 hb
 replace BK202 := za_ BK202 hb
 replace HB := Aside0.mk (below_step (zw2_ HB GE201 GE202) hb)
 (try clear hb)
 (try clear hb2)
 (try clear hk)
 (try clear hi)
 refine hK.out _ _ ⟨zx_ BK202 0, zx_ BK202 1⟩ (fun hHeld => ?_)
 clear hK K
 refine zq_ (some 32) (h := ?_)
 refine yp_ ?_ 21 33
 refine yp_ ?_ 22 34
 refine yp_ ?_ 23 35
 refine yo_ 24 (some 36) (fun K hK => ?_)
 refine yg_ Try.func14 #[.int .i64 5] ?_
 with_reducible refine (wide_Of.calls 5 t210 t211 _ A15.out).mono ?_
 rintro e w48 ⟨rfl, hb⟩
 refine ⟨_, rfl, ?_⟩
 replace HO197 := zy_ HO197 hb
 replace BK201 := za_ BK201 hb
 replace BK202 := za_ BK202 hb
 replace HB := Aside0.mk (below_step (zw2_ HB GE201 GE202) hb)
 (try clear hb)
 (try clear hb2)
 (try clear hk)
 (try clear hi)
 refine hK.out _ _ ⟨zx_ BK202 0, zx_ BK202 1⟩ (fun hHeld => ?_)
 clear hK K
 refine zq_ (some 36) (h := ?_)
 refine yo_ 25 (some 37) (fun K hK => ?_)
 refine yg_ Try.func34 #[.agg #[.int .i64 t210, .int .u64 t211], .int .i64 2] ?_
 with_reducible refine (wide_Over.calls k t210 t211 2 t212 _ A16.out).mono ?_
 rintro e w49 ⟨rfl, hb⟩
 refine ⟨_, rfl, ?_⟩
 replace HO197 := zy_ HO197 hb
 replace BK201 := za_ BK201 hb
 replace BK202 := za_ BK202 hb
 replace HB := Aside0.mk (below_step (zw2_ HB GE201 GE202) hb)
 (try clear hb)
 (try clear hb2)
 (try clear hk)
 (try clear hi)
 refine hK.out _ _ ⟨zx_ BK202 0, zx_ BK202 1⟩ (fun hHeld => ?_)
 clear hK K
 refine zq_ (some 37) (h := ?_)
 refine yp_ ?_ 26 38
 refine yp_ ?_ 27 39
 refine yp_ ?_ 28 40
 refine yo_ 29 (some 41) (fun K hK => ?_)
 refine yg_ Try.func14 #[.int .i64 (-7)] ?_
 with_reducible refine (wide_Of.calls (-7) t213 t214 _ A18.out).mono ?_
 rintro e w50 ⟨rfl, hb⟩
 refine ⟨_, rfl, ?_⟩
 replace HO197 := zy_ HO197 hb
 replace BK201 := za_ BK201 hb
 replace BK202 := za_ BK202 hb
 replace HB := Aside0.mk (below_step (zw2_ HB GE201 GE202) hb)
 (try clear hb)
 (try clear hb2)
 (try clear hk)
 (try clear hi)
 refine hK.out _ _ ⟨zx_ BK202 0, zx_ BK202 1⟩ (fun hHeld => ?_)
 clear hK K
 refine zq_ (some 41) (h := ?_)
 refine yo_ 30 (some 42) (fun K hK => ?_)
 refine yg_ Try.func34 #[.agg #[.int .i64 t213, .int .u64 t214], .int .i64 2] ?_
 with_reducible refine (wide_Over.calls k t213 t214 2 t215 _ A19.out).mono ?_
 rintro e w51 ⟨rfl, hb⟩
 refine ⟨_, rfl, ?_⟩
 replace HO197 := zy_ HO197 hb
 replace BK201 := za_ BK201 hb
 replace BK202 := za_ BK202 hb
 replace HB := Aside0.mk (below_step (zw2_ HB GE201 GE202) hb)
 (try clear hb)
 (try clear hb2)
 (try clear hk)
 (try clear hi)
 refine hK.out _ _ ⟨zx_ BK202 0, zx_ BK202 1⟩ (fun hHeld => ?_)
 clear hK K
 refine zq_ (some 42) (h := ?_)
 refine yp_ ?_ 31 43
 refine yp_ ?_ 32 44
 refine yp_ ?_ 33 45
 refine yo_ 34 (some 46) (fun K hK => ?_)
 refine yg_ Try.func14 #[.int .i64 5] ?_
 with_reducible refine (wide_Of.calls 5 t216 t217 _ A21.out).mono ?_
 rintro e w52 ⟨rfl, hb⟩
 refine ⟨_, rfl, ?_⟩
 replace HO197 := zy_ HO197 hb
 replace BK201 := za_ BK201 hb
 replace BK202 := za_ BK202 hb
 replace HB := Aside0.mk (below_step (zw2_ HB GE201 GE202) hb)
 (try clear hb)
 (try clear hb2)
 (try clear hk)
 (try clear hi)
 refine hK.out _ _ ⟨zx_ BK202 0, zx_ BK202 1⟩ (fun hHeld => ?_)
 clear hK K
 refine zq_ (some 46) (h := ?_)
 refine yo_ 35 (some 47) (fun K hK => ?_)
 refine yg_ Try.func23 #[.agg #[.int .i64 t216, .int .u64 t217], .int .i64 1] ?_
 with_reducible refine (wide_Shift.calls k t216 t217 1 t218 t219 _ A22.out).mono ?_
 rintro e w53 ⟨rfl, hb⟩
 refine ⟨_, rfl, ?_⟩
 replace HO197 := zy_ HO197 hb
 replace BK201 := za_ BK201 hb
 replace BK202 := za_ BK202 hb
 replace HB := Aside0.mk (below_step (zw2_ HB GE201 GE202) hb)
 (try clear hb)
 (try clear hb2)
 (try clear hk)
 (try clear hi)
 refine hK.out _ _ ⟨zx_ BK202 0, zx_ BK202 1⟩ (fun hHeld => ?_)
 clear hK K
 refine zq_ (some 47) (h := ?_)
 refine yo_ 36 (some 48) (fun K hK => ?_)
 refine yg_ Try.func14 #[.int .i64 2] ?_
 with_reducible refine (wide_Of.calls 2 t220 t221 _ A23.out).mono ?_
 rintro e w54 ⟨rfl, hb⟩
 refine ⟨_, rfl, ?_⟩
 replace HO197 := zy_ HO197 hb
 replace BK201 := za_ BK201 hb
 replace BK202 := za_ BK202 hb
 replace HB := Aside0.mk (below_step (zw2_ HB GE201 GE202) hb)
 (try clear hb)
 (try clear hb2)
 (try clear hk)
 (try clear hi)
 refine hK.out _ _ ⟨zx_ BK202 0, zx_ BK202 1⟩ (fun hHeld => ?_)
 clear hK K
 refine zq_ (some 48) (h := ?_)
 refine yp_ ?_ 37 49
 refine yp_ ?_ 38 50
 refine yp_ ?_ 39 51
 refine yo_ 40 (some 52) (fun K hK => ?_)
 refine yg_ Try.func14 #[.int .i64 5] ?_
 with_reducible refine (wide_Of.calls 5 t222 t223 _ A25.out).mono ?_
 rintro e w55 ⟨rfl, hb⟩
 refine ⟨_, rfl, ?_⟩
 replace HO197 := zy_ HO197 hb
 replace BK201 := za_ BK201 hb
 replace BK202 := za_ BK202 hb
 replace HB := Aside0.mk (below_step (zw2_ HB GE201 GE202) hb)
 (try clear hb)
 (try clear hb2)
 (try clear hk)
 (try clear hi)
 refine hK.out _ _ ⟨zx_ BK202 0, zx_ BK202 1⟩ (fun hHeld => ?_)
 clear hK K
 refine zq_ (some 52) (h := ?_)
 refine yo_ 41 (some 53) (fun K hK => ?_)
 refine yg_ Try.func23 #[.agg #[.int .i64 t222, .int .u64 t223], .int .i64 0] ?_
 with_reducible refine (wide_Shift.calls k t222 t223 0 t224 t225 _ A26.out).mono ?_
 rintro e w56 ⟨rfl, hb⟩
 refine ⟨_, rfl, ?_⟩
 replace HO197 := zy_ HO197 hb
 replace BK201 := za_ BK201 hb
 replace BK202 := za_ BK202 hb
 replace HB := Aside0.mk (below_step (zw2_ HB GE201 GE202) hb)
 (try clear hb)
 (try clear hb2)
 (try clear hk)
 (try clear hi)
 refine hK.out _ _ ⟨zx_ BK202 0, zx_ BK202 1⟩ (fun hHeld => ?_)
 clear hK K
 refine zq_ (some 53) (h := ?_)
 refine yo_ 42 (some 54) (fun K hK => ?_)
 refine yg_ Try.func14 #[.int .i64 5] ?_
 with_reducible refine (wide_Of.calls 5 t226 t227 _ A27.out).mono ?_
 rintro e w57 ⟨rfl, hb⟩
 refine ⟨_, rfl, ?_⟩
 replace HO197 := zy_ HO197 hb
 replace BK201 := za_ BK201 hb
 replace BK202 := za_ BK202 hb
 replace HB := Aside0.mk (below_step (zw2_ HB GE201 GE202) hb)
 (try clear hb)
 (try clear hb2)
 (try clear hk)
 (try clear hi)
 refine hK.out _ _ ⟨zx_ BK202 0, zx_ BK202 1⟩ (fun hHeld => ?_)
 clear hK K
 refine zq_ (some 54) (h := ?_)
 refine yp_ ?_ 43 55
 refine yp_ ?_ 44 56
 refine yp_ ?_ 45 57
 refine yt2_ ?_ 46 58
 refine yo_ 47 (some 59) (fun K hK => ?_)
 refine yg_ Try.func14 #[.int .i64 0] ?_
 with_reducible refine (wide_Of.calls 0 t228 t229 _ A29.out).mono ?_
 rintro e w58 ⟨rfl, hb⟩
 refine ⟨_, rfl, ?_⟩
 replace HO197 := zy_ HO197 hb
 replace BK201 := za_ BK201 hb
 replace BK202 := za_ BK202 hb
 replace HB := Aside0.mk (below_step (zw2_ HB GE201 GE202) hb)
 (try clear hb)
 (try clear hb2)
 (try clear hk)
 (try clear hi)
 refine hK.out _ _ ⟨zx_ BK202 0, zx_ BK202 1⟩ (fun hHeld => ?_)
 clear hK K
 refine zq_ (some 59) (h := ?_)
 refine yo_ 48 (some 60) (fun K hK => ?_)
 refine yg_ Try.func24 #[.agg #[.int .i64 (-9223372036854775808), .int .u64 0], .agg #[.int .i64 t228, .int .u64 t229]] ?_
 with_reducible refine (wide_Cmp.calls k (-9223372036854775808) 0 t228 t229 t230 _ A30.out).mono ?_
 rintro e w59 ⟨rfl, hb⟩
 refine ⟨_, rfl, ?_⟩
 replace HO197 := zy_ HO197 hb
 replace BK201 := za_ BK201 hb
 replace BK202 := za_ BK202 hb
 replace HB := Aside0.mk (below_step (zw2_ HB GE201 GE202) hb)
 (try clear hb)
 (try clear hb2)
 (try clear hk)
 (try clear hi)
 refine hK.out _ _ ⟨zx_ BK202 0, zx_ BK202 1⟩ (fun hHeld => ?_)
 clear hK K
 refine zq_ (some 60) (h := ?_)
 refine yp_ ?_ 49 61
 refine yp_ ?_ 50 62
 refine yp_ ?_ 51 0
 refine done_ (done_of HT_.out (by kernel_rfl)) ?_
 try go_wp2
 go_ret
 exact ⟨z0_, zw2_ HB GE201 GE202⟩

/-- THE ONE PURE STATEMENT of carousellaw2_WideKnown: yours. -/
def carousellaw2_WideKnown.Pure : Prop := ∃ k, carousellaw2_WideKnown.f k  = some true
theorem carousellaw2_WideKnown.walk (P : carousellaw2_WideKnown.Pure)  (w : World)  :
  Calls Try.prog 10 #[] w fun e w' => e = .returned (.bool true) ∧ Below w.heap.size w w' := by
 obtain ⟨k, h⟩ := P  
 refine (carousellaw2_WideKnown.calls k  true w h).mono ?_
 rintro e w' ⟨rfl, hd⟩
 exact ⟨rfl, hd⟩

end Go.Proofs.Ytalghnbolnimiaa.PWideKnown
