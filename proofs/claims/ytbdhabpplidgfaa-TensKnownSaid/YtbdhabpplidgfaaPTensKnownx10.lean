/- The functions that the law TensKnown reaches, as Lean functions, and that each call of the Go function does what its Lean function says, wherever that one answers. Written by a program of mine over the print of the kit; Lean checks it. -/
import Derived.Test.YtbdhabpplidgfaaPTensKnownx0
import Derived.Test.YtbdhabpplidgfaaPTensKnownx1
import Derived.Test.YtbdhabpplidgfaaPTensKnownx2
import Derived.Test.YtbdhabpplidgfaaPTensKnownx5
import Derived.Test.YtbdhabpplidgfaaPTensKnownx6
import Derived.Test.YtbdhabpplidgfaaPTensKnownx7
import Derived.Test.YtbdhabpplidgfaaPTensKnownx9
namespace Go.Proofs.Ytbdhabpplidgfaa.PTensKnown
open Go.RowKit Go.Proofs.YtbdhabpplidgfaaW.PrintWords Go.Proofs.YtbdhabpplidgfaaW.PrintLast Go.Proofs.YtbdhabpplidgfaaW.PrintMore
attribute [local go_sem] max2_int min2_int max_two min_two max_three min_three max_four min_four   -- for this text's walks alone
set_option linter.unusedVariables false
set_option linter.unusedSimpArgs false

/-! ### carousellaw6_TensKnown: function 9 -/
def carousellaw6_TensKnown.f (k : Nat)  : Option (Bool) := (carousellaw6_awake.f k).bind fun t321 => (if t321 = true then ((some (([2, 2] : List Int) : List Int)).bind fun y322 => ((some (([1, 2, 3, 4] : List Int) : List Int)).bind fun y325 => ((carousellaw6_row.f (([10, 20] : List Int))).bind fun bt332 => ((tens_Add.f k y322 y325 bt332.1 bt332.2).bind fun bt338 => ((tens_Turn.f k y322 y325 (([1, 0] : List Int))).bind fun bt349 => ((carousellaw6_row.f (([1, 2, 3] : List Int))).bind fun bt360 => ((tens_Add.f k y322 y325 bt360.1 bt360.2).bind fun bt366 => ((tens_Add.f k y322 y325 (([2] : List Int)) ([] : List Int)).bind fun bt377 => ((tens_Reshape.f k y322 y325 (([3] : List Int))).bind fun bt388 => ((tens_Reshape.f k y322 y325 (([4] : List Int))).bind fun bt399 => ((tens_Turn.f k y322 y325 (([0, 0] : List Int))).bind fun bt410 => ((tens_Fold.f k y322 y325 (([3] : List Int))).bind fun bt421 => ((tens_New.f k (([0] : List Int)) 1).bind fun bt432 => (if bt338.2.2 = 0 then ((tens_Same.f k bt338.1 bt338.2.1 (([2, 2] : List Int)) (([11, 22, 13, 24] : List Int))).bind fun t446 => (if t446 = true then (if bt349.2.2 = 0 then ((tens_Same.f k bt349.1 bt349.2.1 (([2, 2] : List Int)) (([1, 3, 2, 4] : List Int))).bind fun t453 => (if t453 = true then (if bt366.2.2 = 4 then (if bt377.2.2 = 1 then (if bt388.2.2 = 4 then (if bt399.2.2 = 0 then ((carousellaw6_row.f (([1, 2, 3, 4] : List Int))).bind fun bt457 => ((tens_Same.f k bt399.1 bt399.2.1 bt457.1 bt457.2).bind fun t463 => (if t463 = true then (if bt410.2.2 = 1 then (if bt421.2.2 = 4 then (some (bt432.2.2 == 1)) else (none)) else (none)) else (none)))) else (none)) else (none)) else (none)) else (none)) else (none))) else (none)) else (none))) else (none))))))))))))))) else (none))
theorem carousellaw6_TensKnown.mono : ∀ k, LeO (carousellaw6_TensKnown.f k ) (carousellaw6_TensKnown.f (k + 1) ) := by
 intro  k
 unfold carousellaw6_TensKnown.f
 repeat' first
   | (with_reducible exact carousellaw6_awake.mono _)
   | (with_reducible exact tens_Add.mono _ _ _ _ _)
   | (with_reducible exact tens_Fold.mono _ _ _ _)
   | (with_reducible exact tens_New.mono _ _ _)
   | (with_reducible exact tens_Reshape.mono _ _ _ _)
   | (with_reducible exact tens_Same.mono _ _ _ _ _)
   | (with_reducible exact tens_Turn.mono _ _ _ _)
   | (with_reducible exact LeO.refl _)
   | (with_reducible exact LeO.none _)
   | (with_reducible refine LeO.ite ?_ ?_)
   | (with_reducible refine LeO.bind ?_ (fun _ => ?_))
   | exact carousellaw6_awake.mono _
   | exact tens_Add.mono _ _ _ _ _
   | exact tens_Fold.mono _ _ _ _
   | exact tens_New.mono _ _ _
   | exact tens_Reshape.mono _ _ _ _
   | exact tens_Same.mono _ _ _ _ _
   | exact tens_Turn.mono _ _ _ _
   | exact LeO.none _
   | refine LeO.ite ?_ ?_
   | refine LeO.bind ?_ (fun _ => ?_)
def carousellaw6_TensKnown.T4 : Bool × List (List Nat × List Nat) := (true, [([], []), ([], []), ([1], [1]), ([0, 2, 2], [0, 2]), ([3], [3]), ([4], [4]), ([4], [4]), ([], []), ([7, 5, 3, 0, 1, 2, 3, 4, 5, 7], [5, 7]), ([6, 8, 0, 1, 2, 3, 4, 5, 6, 7, 8], [6])])
def carousellaw6_TensKnown.B4 : List Nat := [0, 0, 2, 7, 15, 31, 31, 0, 191, 511]
theorem carousellaw6_TensKnown.tab4 : rtab .any (opsOf Try.f9 4) = carousellaw6_TensKnown.T4 := by kernel_rfl
theorem carousellaw6_TensKnown.bits4 : waitsOk carousellaw6_TensKnown.T4.2 carousellaw6_TensKnown.B4 = true := by kernel_rfl
def carousellaw6_TensKnown.T6 : Bool × List (List Nat × List Nat) := (true, [([], []), ([], []), ([1], [1]), ([0, 2, 2], [0, 2]), ([3], [3]), ([4], [4]), ([4], [4]), ([], []), ([7, 5, 3, 0, 1, 2, 3, 4, 5, 7], [5, 7]), ([6, 8, 0, 1, 2, 3, 4, 5, 6, 7, 8], [6])])
def carousellaw6_TensKnown.B6 : List Nat := [0, 0, 2, 7, 15, 31, 31, 0, 191, 511]
theorem carousellaw6_TensKnown.tab6 : rtab .any (opsOf Try.f9 6) = carousellaw6_TensKnown.T6 := by kernel_rfl
theorem carousellaw6_TensKnown.bits6 : waitsOk carousellaw6_TensKnown.T6.2 carousellaw6_TensKnown.B6 = true := by kernel_rfl
def carousellaw6_TensKnown.T13 : Bool × List (List Nat × List Nat) := (true, [([], []), ([0], [0]), ([1], [1]), ([2], [2]), ([2], [2]), ([2], [2]), ([4, 5, 2], [2, 4, 5]), ([3, 6, 2, 2], [2, 3, 6]), ([2, 7], [2, 7]), ([8, 7], [8]), ([9], [9]), ([10, 9], [9, 10]), ([9, 11], [9, 11]), ([12, 9], [12]), ([13], [13]), ([13], [13]), ([13], [13]), ([15, 16, 13], [13, 15, 16]), ([14, 17, 13, 13], [13, 14, 17]), ([13, 18], [13, 18]), ([19, 18], [19]), ([20], [20]), ([21, 20], [20, 21]), ([20, 22], [20, 22]), ([23, 20], [23]), ([24], [24]), ([25, 24], [24, 25]), ([24, 26], [24, 26]), ([27, 24], [27]), ([28], [28]), ([29, 28], [28, 29]), ([28, 30], [28, 30]), ([31, 28], [31]), ([32], [32]), ([33, 32], [32, 33]), ([32, 34], [32, 34]), ([35, 32], [35]), ([36], [36]), ([36], [36]), ([38, 36, 36], [36, 38]), ([37, 39, 39, 36], [36, 37, 39]), ([36, 40], [36, 40]), ([41, 40], [41]), ([42], [42]), ([43, 42], [42, 43]), ([42, 44], [42, 44]), ([45, 42], [45]), ([46], [46]), ([47, 46], [46, 47]), ([46, 48], [46, 48]), ([49, 46], [49]), ([50], [50]), ([51, 50], [50, 51]), ([50, 52], [50, 52]), ([53, 50, 0, 1, 2, 3, 4, 5, 6, 7, 8, 9, 10, 11, 12, 13, 14, 15, 16, 17, 18, 19, 20, 21, 22, 23, 24, 25, 26, 27, 28, 29, 30, 31, 32, 33, 34, 35, 36, 37, 38, 39, 40, 41, 42, 43, 44, 45, 46, 47, 48, 49, 50, 51, 52, 53], [53])])
def carousellaw6_TensKnown.B13 : List Nat := [0, 1, 3, 7, 7, 7, 55, 127, 255, 511, 1023, 2047, 4095, 8191, 16383, 16383, 16383, 114687, 262143, 524287, 1048575, 2097151, 4194303, 8388607, 16777215, 33554431, 67108863, 134217727, 268435455, 536870911, 1073741823, 2147483647, 4294967295, 8589934591, 17179869183, 34359738367, 68719476735, 137438953471, 137438953471, 412316860415, 1099511627775, 2199023255551, 4398046511103, 8796093022207, 17592186044415, 35184372088831, 70368744177663, 140737488355327, 281474976710655, 562949953421311, 1125899906842623, 2251799813685247, 4503599627370495, 9007199254740991, 18014398509481983]
theorem carousellaw6_TensKnown.tab13 : rtab .any (opsOf Try.f9 13) = carousellaw6_TensKnown.T13 := by kernel_rfl
theorem carousellaw6_TensKnown.bits13 : waitsOk carousellaw6_TensKnown.T13.2 carousellaw6_TensKnown.B13 = true := by kernel_rfl
set_option maxHeartbeats 8000000 in
set_option maxRecDepth 100000 in
theorem carousellaw6_TensKnown.calls (k : Nat)  (r : Bool) (w : World) (h : carousellaw6_TensKnown.f k  = some r) :
  Calls Try.prog 9 #[] w fun e w' => e = .returned (.bool r) ∧ Below w.heap.size w w' := by
 have hu27 := Try.underlying27
 have HB := Aside0.mk (Below.refl w.heap.size w)
 have H : ((carousellaw6_awake.f k).bind fun t321 => (if t321 = true then ((some (([2, 2] : List Int) : List Int)).bind fun y322 => ((some (([1, 2, 3, 4] : List Int) : List Int)).bind fun y325 => ((carousellaw6_row.f (([10, 20] : List Int))).bind fun bt332 => ((tens_Add.f k y322 y325 bt332.1 bt332.2).bind fun bt338 => ((tens_Turn.f k y322 y325 (([1, 0] : List Int))).bind fun bt349 => ((carousellaw6_row.f (([1, 2, 3] : List Int))).bind fun bt360 => ((tens_Add.f k y322 y325 bt360.1 bt360.2).bind fun bt366 => ((tens_Add.f k y322 y325 (([2] : List Int)) ([] : List Int)).bind fun bt377 => ((tens_Reshape.f k y322 y325 (([3] : List Int))).bind fun bt388 => ((tens_Reshape.f k y322 y325 (([4] : List Int))).bind fun bt399 => ((tens_Turn.f k y322 y325 (([0, 0] : List Int))).bind fun bt410 => ((tens_Fold.f k y322 y325 (([3] : List Int))).bind fun bt421 => ((tens_New.f k (([0] : List Int)) 1).bind fun bt432 => (if bt338.2.2 = 0 then ((tens_Same.f k bt338.1 bt338.2.1 (([2, 2] : List Int)) (([11, 22, 13, 24] : List Int))).bind fun t446 => (if t446 = true then (if bt349.2.2 = 0 then ((tens_Same.f k bt349.1 bt349.2.1 (([2, 2] : List Int)) (([1, 3, 2, 4] : List Int))).bind fun t453 => (if t453 = true then (if bt366.2.2 = 4 then (if bt377.2.2 = 1 then (if bt388.2.2 = 4 then (if bt399.2.2 = 0 then ((carousellaw6_row.f (([1, 2, 3, 4] : List Int))).bind fun bt457 => ((tens_Same.f k bt399.1 bt399.2.1 bt457.1 bt457.2).bind fun t463 => (if t463 = true then (if bt410.2.2 = 1 then (if bt421.2.2 = 4 then (some (bt432.2.2 == 1)) else (none)) else (none)) else (none)))) else (none)) else (none)) else (none)) else (none)) else (none))) else (none)) else (none))) else (none))))))))))))))) else (none))) = some r := h
 clear h
 replace H := Option.bind_eq_some_iff.mp H
 obtain ⟨t321, A10, H⟩ := H
 (try dsimp only at H)
 have A1 := Aside0.mk A10
 clear A10
 by_cases c2 : t321 = true
 rotate_left
 ·replace c2 := Bool.eq_false_iff.mpr c2
  subst c2
  have H1 : (none) = some r := by rw [if_neg (show ¬ (false = true) by decide)] at H; exact H
  clear H
  have H := H1
  clear H1
  exact absurd H (by simp)
 subst c2
 have H1 := H
 rw [if_pos rfl] at H1
 clear H
 have H := H1
 clear H1
 obtain ⟨y322, hy322⟩ : ∃ y_ : List Int, y_ = (([2, 2] : List Int)) := ⟨_, rfl⟩
 replace H : ((some (([1, 2, 3, 4] : List Int) : List Int)).bind fun y325 => ((carousellaw6_row.f (([10, 20] : List Int))).bind fun bt332 => ((tens_Add.f k y322 y325 bt332.1 bt332.2).bind fun bt338 => ((tens_Turn.f k y322 y325 (([1, 0] : List Int))).bind fun bt349 => ((carousellaw6_row.f (([1, 2, 3] : List Int))).bind fun bt360 => ((tens_Add.f k y322 y325 bt360.1 bt360.2).bind fun bt366 => ((tens_Add.f k y322 y325 (([2] : List Int)) ([] : List Int)).bind fun bt377 => ((tens_Reshape.f k y322 y325 (([3] : List Int))).bind fun bt388 => ((tens_Reshape.f k y322 y325 (([4] : List Int))).bind fun bt399 => ((tens_Turn.f k y322 y325 (([0, 0] : List Int))).bind fun bt410 => ((tens_Fold.f k y322 y325 (([3] : List Int))).bind fun bt421 => ((tens_New.f k (([0] : List Int)) 1).bind fun bt432 => (if bt338.2.2 = 0 then ((tens_Same.f k bt338.1 bt338.2.1 (([2, 2] : List Int)) (([11, 22, 13, 24] : List Int))).bind fun t446 => (if t446 = true then (if bt349.2.2 = 0 then ((tens_Same.f k bt349.1 bt349.2.1 (([2, 2] : List Int)) (([1, 3, 2, 4] : List Int))).bind fun t453 => (if t453 = true then (if bt366.2.2 = 4 then (if bt377.2.2 = 1 then (if bt388.2.2 = 4 then (if bt399.2.2 = 0 then ((carousellaw6_row.f (([1, 2, 3, 4] : List Int))).bind fun bt457 => ((tens_Same.f k bt399.1 bt399.2.1 bt457.1 bt457.2).bind fun t463 => (if t463 = true then (if bt410.2.2 = 1 then (if bt421.2.2 = 4 then (some (bt432.2.2 == 1)) else (none)) else (none)) else (none)))) else (none)) else (none)) else (none)) else (none)) else (none))) else (none)) else (none))) else (none)))))))))))))) = some r := by first | (rw [hy322]; with_reducible exact H) | (have H2_ := (Option.bind_some _ _).symm.trans H; rw [hy322]; with_reducible exact H2_) | (have H2_ := (Option.bind_some _ _).symm.trans H; with_reducible exact H2_) | with_reducible exact H | (rw [hy322]; exact H) | exact H
 have Ny322 := Aside0.mk hy322
 clear hy322
 obtain ⟨y325, hy325⟩ : ∃ y_ : List Int, y_ = (([1, 2, 3, 4] : List Int)) := ⟨_, rfl⟩
 replace H : ((carousellaw6_row.f (([10, 20] : List Int))).bind fun bt332 => ((tens_Add.f k y322 y325 bt332.1 bt332.2).bind fun bt338 => ((tens_Turn.f k y322 y325 (([1, 0] : List Int))).bind fun bt349 => ((carousellaw6_row.f (([1, 2, 3] : List Int))).bind fun bt360 => ((tens_Add.f k y322 y325 bt360.1 bt360.2).bind fun bt366 => ((tens_Add.f k y322 y325 (([2] : List Int)) ([] : List Int)).bind fun bt377 => ((tens_Reshape.f k y322 y325 (([3] : List Int))).bind fun bt388 => ((tens_Reshape.f k y322 y325 (([4] : List Int))).bind fun bt399 => ((tens_Turn.f k y322 y325 (([0, 0] : List Int))).bind fun bt410 => ((tens_Fold.f k y322 y325 (([3] : List Int))).bind fun bt421 => ((tens_New.f k (([0] : List Int)) 1).bind fun bt432 => (if bt338.2.2 = 0 then ((tens_Same.f k bt338.1 bt338.2.1 (([2, 2] : List Int)) (([11, 22, 13, 24] : List Int))).bind fun t446 => (if t446 = true then (if bt349.2.2 = 0 then ((tens_Same.f k bt349.1 bt349.2.1 (([2, 2] : List Int)) (([1, 3, 2, 4] : List Int))).bind fun t453 => (if t453 = true then (if bt366.2.2 = 4 then (if bt377.2.2 = 1 then (if bt388.2.2 = 4 then (if bt399.2.2 = 0 then ((carousellaw6_row.f (([1, 2, 3, 4] : List Int))).bind fun bt457 => ((tens_Same.f k bt399.1 bt399.2.1 bt457.1 bt457.2).bind fun t463 => (if t463 = true then (if bt410.2.2 = 1 then (if bt421.2.2 = 4 then (some (bt432.2.2 == 1)) else (none)) else (none)) else (none)))) else (none)) else (none)) else (none)) else (none)) else (none))) else (none)) else (none))) else (none))))))))))))) = some r := by first | (rw [hy325]; with_reducible exact H) | (have H2_ := (Option.bind_some _ _).symm.trans H; rw [hy325]; with_reducible exact H2_) | (have H2_ := (Option.bind_some _ _).symm.trans H; with_reducible exact H2_) | with_reducible exact H | (rw [hy325]; exact H) | exact H
 have Ny325 := Aside0.mk hy325
 clear hy325
 obtain ⟨y329, hy329⟩ : ∃ y_ : List Int, y_ = (([10, 20] : List Int)) := ⟨_, rfl⟩
 replace H : ((carousellaw6_row.f y329).bind fun bt332 => ((tens_Add.f k y322 y325 bt332.1 bt332.2).bind fun bt338 => ((tens_Turn.f k y322 y325 (([1, 0] : List Int))).bind fun bt349 => ((carousellaw6_row.f (([1, 2, 3] : List Int))).bind fun bt360 => ((tens_Add.f k y322 y325 bt360.1 bt360.2).bind fun bt366 => ((tens_Add.f k y322 y325 (([2] : List Int)) ([] : List Int)).bind fun bt377 => ((tens_Reshape.f k y322 y325 (([3] : List Int))).bind fun bt388 => ((tens_Reshape.f k y322 y325 (([4] : List Int))).bind fun bt399 => ((tens_Turn.f k y322 y325 (([0, 0] : List Int))).bind fun bt410 => ((tens_Fold.f k y322 y325 (([3] : List Int))).bind fun bt421 => ((tens_New.f k (([0] : List Int)) 1).bind fun bt432 => (if bt338.2.2 = 0 then ((tens_Same.f k bt338.1 bt338.2.1 (([2, 2] : List Int)) (([11, 22, 13, 24] : List Int))).bind fun t446 => (if t446 = true then (if bt349.2.2 = 0 then ((tens_Same.f k bt349.1 bt349.2.1 (([2, 2] : List Int)) (([1, 3, 2, 4] : List Int))).bind fun t453 => (if t453 = true then (if bt366.2.2 = 4 then (if bt377.2.2 = 1 then (if bt388.2.2 = 4 then (if bt399.2.2 = 0 then ((carousellaw6_row.f (([1, 2, 3, 4] : List Int))).bind fun bt457 => ((tens_Same.f k bt399.1 bt399.2.1 bt457.1 bt457.2).bind fun t463 => (if t463 = true then (if bt410.2.2 = 1 then (if bt421.2.2 = 4 then (some (bt432.2.2 == 1)) else (none)) else (none)) else (none)))) else (none)) else (none)) else (none)) else (none)) else (none))) else (none)) else (none))) else (none))))))))))))) = some r := by first | (rw [hy329]; with_reducible exact H) | (have H2_ := (Option.bind_some _ _).symm.trans H; rw [hy329]; with_reducible exact H2_) | (have H2_ := (Option.bind_some _ _).symm.trans H; with_reducible exact H2_) | with_reducible exact H | (rw [hy329]; exact H) | exact H
 have Ny329 := Aside0.mk hy329
 clear hy329
 replace H := Option.bind_eq_some_iff.mp H
 obtain ⟨⟨t332, t335⟩, A30, H⟩ := H
 (try dsimp only at H)
 have A3 := Aside0.mk A30
 clear A30
 replace H := Option.bind_eq_some_iff.mp H
 obtain ⟨⟨t338, t341, t344⟩, A40, H⟩ := H
 (try dsimp only at H)
 have A4 := Aside0.mk A40
 clear A40
 obtain ⟨y346, hy346⟩ : ∃ y_ : List Int, y_ = (([1, 0] : List Int)) := ⟨_, rfl⟩
 replace H : ((tens_Turn.f k y322 y325 y346).bind fun bt349 => ((carousellaw6_row.f (([1, 2, 3] : List Int))).bind fun bt360 => ((tens_Add.f k y322 y325 bt360.1 bt360.2).bind fun bt366 => ((tens_Add.f k y322 y325 (([2] : List Int)) ([] : List Int)).bind fun bt377 => ((tens_Reshape.f k y322 y325 (([3] : List Int))).bind fun bt388 => ((tens_Reshape.f k y322 y325 (([4] : List Int))).bind fun bt399 => ((tens_Turn.f k y322 y325 (([0, 0] : List Int))).bind fun bt410 => ((tens_Fold.f k y322 y325 (([3] : List Int))).bind fun bt421 => ((tens_New.f k (([0] : List Int)) 1).bind fun bt432 => (if t344 = 0 then ((tens_Same.f k t338 t341 (([2, 2] : List Int)) (([11, 22, 13, 24] : List Int))).bind fun t446 => (if t446 = true then (if bt349.2.2 = 0 then ((tens_Same.f k bt349.1 bt349.2.1 (([2, 2] : List Int)) (([1, 3, 2, 4] : List Int))).bind fun t453 => (if t453 = true then (if bt366.2.2 = 4 then (if bt377.2.2 = 1 then (if bt388.2.2 = 4 then (if bt399.2.2 = 0 then ((carousellaw6_row.f (([1, 2, 3, 4] : List Int))).bind fun bt457 => ((tens_Same.f k bt399.1 bt399.2.1 bt457.1 bt457.2).bind fun t463 => (if t463 = true then (if bt410.2.2 = 1 then (if bt421.2.2 = 4 then (some (bt432.2.2 == 1)) else (none)) else (none)) else (none)))) else (none)) else (none)) else (none)) else (none)) else (none))) else (none)) else (none))) else (none))))))))))) = some r := by first | (rw [hy346]; with_reducible exact H) | (have H2_ := (Option.bind_some _ _).symm.trans H; rw [hy346]; with_reducible exact H2_) | (have H2_ := (Option.bind_some _ _).symm.trans H; with_reducible exact H2_) | with_reducible exact H | (rw [hy346]; exact H) | exact H
 have Ny346 := Aside0.mk hy346
 clear hy346
 replace H := Option.bind_eq_some_iff.mp H
 obtain ⟨⟨t349, t352, t355⟩, A50, H⟩ := H
 (try dsimp only at H)
 have A5 := Aside0.mk A50
 clear A50
 obtain ⟨y357, hy357⟩ : ∃ y_ : List Int, y_ = (([1, 2, 3] : List Int)) := ⟨_, rfl⟩
 replace H : ((carousellaw6_row.f y357).bind fun bt360 => ((tens_Add.f k y322 y325 bt360.1 bt360.2).bind fun bt366 => ((tens_Add.f k y322 y325 (([2] : List Int)) ([] : List Int)).bind fun bt377 => ((tens_Reshape.f k y322 y325 (([3] : List Int))).bind fun bt388 => ((tens_Reshape.f k y322 y325 (([4] : List Int))).bind fun bt399 => ((tens_Turn.f k y322 y325 (([0, 0] : List Int))).bind fun bt410 => ((tens_Fold.f k y322 y325 (([3] : List Int))).bind fun bt421 => ((tens_New.f k (([0] : List Int)) 1).bind fun bt432 => (if t344 = 0 then ((tens_Same.f k t338 t341 (([2, 2] : List Int)) (([11, 22, 13, 24] : List Int))).bind fun t446 => (if t446 = true then (if t355 = 0 then ((tens_Same.f k t349 t352 (([2, 2] : List Int)) (([1, 3, 2, 4] : List Int))).bind fun t453 => (if t453 = true then (if bt366.2.2 = 4 then (if bt377.2.2 = 1 then (if bt388.2.2 = 4 then (if bt399.2.2 = 0 then ((carousellaw6_row.f (([1, 2, 3, 4] : List Int))).bind fun bt457 => ((tens_Same.f k bt399.1 bt399.2.1 bt457.1 bt457.2).bind fun t463 => (if t463 = true then (if bt410.2.2 = 1 then (if bt421.2.2 = 4 then (some (bt432.2.2 == 1)) else (none)) else (none)) else (none)))) else (none)) else (none)) else (none)) else (none)) else (none))) else (none)) else (none))) else (none)))))))))) = some r := by first | (rw [hy357]; with_reducible exact H) | (have H2_ := (Option.bind_some _ _).symm.trans H; rw [hy357]; with_reducible exact H2_) | (have H2_ := (Option.bind_some _ _).symm.trans H; with_reducible exact H2_) | with_reducible exact H | (rw [hy357]; exact H) | exact H
 have Ny357 := Aside0.mk hy357
 clear hy357
 replace H := Option.bind_eq_some_iff.mp H
 obtain ⟨⟨t360, t363⟩, A60, H⟩ := H
 (try dsimp only at H)
 have A6 := Aside0.mk A60
 clear A60
 replace H := Option.bind_eq_some_iff.mp H
 obtain ⟨⟨t366, t369, t372⟩, A70, H⟩ := H
 (try dsimp only at H)
 have A7 := Aside0.mk A70
 clear A70
 obtain ⟨y374, hy374⟩ : ∃ y_ : List Int, y_ = (([2] : List Int)) := ⟨_, rfl⟩
 replace H : ((tens_Add.f k y322 y325 y374 ([] : List Int)).bind fun bt377 => ((tens_Reshape.f k y322 y325 (([3] : List Int))).bind fun bt388 => ((tens_Reshape.f k y322 y325 (([4] : List Int))).bind fun bt399 => ((tens_Turn.f k y322 y325 (([0, 0] : List Int))).bind fun bt410 => ((tens_Fold.f k y322 y325 (([3] : List Int))).bind fun bt421 => ((tens_New.f k (([0] : List Int)) 1).bind fun bt432 => (if t344 = 0 then ((tens_Same.f k t338 t341 (([2, 2] : List Int)) (([11, 22, 13, 24] : List Int))).bind fun t446 => (if t446 = true then (if t355 = 0 then ((tens_Same.f k t349 t352 (([2, 2] : List Int)) (([1, 3, 2, 4] : List Int))).bind fun t453 => (if t453 = true then (if t372 = 4 then (if bt377.2.2 = 1 then (if bt388.2.2 = 4 then (if bt399.2.2 = 0 then ((carousellaw6_row.f (([1, 2, 3, 4] : List Int))).bind fun bt457 => ((tens_Same.f k bt399.1 bt399.2.1 bt457.1 bt457.2).bind fun t463 => (if t463 = true then (if bt410.2.2 = 1 then (if bt421.2.2 = 4 then (some (bt432.2.2 == 1)) else (none)) else (none)) else (none)))) else (none)) else (none)) else (none)) else (none)) else (none))) else (none)) else (none))) else (none)))))))) = some r := by first | (rw [hy374]; with_reducible exact H) | (have H2_ := (Option.bind_some _ _).symm.trans H; rw [hy374]; with_reducible exact H2_) | (have H2_ := (Option.bind_some _ _).symm.trans H; with_reducible exact H2_) | with_reducible exact H | (rw [hy374]; exact H) | exact H
 have Ny374 := Aside0.mk hy374
 clear hy374
 replace H := Option.bind_eq_some_iff.mp H
 obtain ⟨⟨t377, t380, t383⟩, A80, H⟩ := H
 (try dsimp only at H)
 have A8 := Aside0.mk A80
 clear A80
 obtain ⟨y385, hy385⟩ : ∃ y_ : List Int, y_ = (([3] : List Int)) := ⟨_, rfl⟩
 replace H : ((tens_Reshape.f k y322 y325 y385).bind fun bt388 => ((tens_Reshape.f k y322 y325 (([4] : List Int))).bind fun bt399 => ((tens_Turn.f k y322 y325 (([0, 0] : List Int))).bind fun bt410 => ((tens_Fold.f k y322 y325 (([3] : List Int))).bind fun bt421 => ((tens_New.f k (([0] : List Int)) 1).bind fun bt432 => (if t344 = 0 then ((tens_Same.f k t338 t341 (([2, 2] : List Int)) (([11, 22, 13, 24] : List Int))).bind fun t446 => (if t446 = true then (if t355 = 0 then ((tens_Same.f k t349 t352 (([2, 2] : List Int)) (([1, 3, 2, 4] : List Int))).bind fun t453 => (if t453 = true then (if t372 = 4 then (if t383 = 1 then (if bt388.2.2 = 4 then (if bt399.2.2 = 0 then ((carousellaw6_row.f (([1, 2, 3, 4] : List Int))).bind fun bt457 => ((tens_Same.f k bt399.1 bt399.2.1 bt457.1 bt457.2).bind fun t463 => (if t463 = true then (if bt410.2.2 = 1 then (if bt421.2.2 = 4 then (some (bt432.2.2 == 1)) else (none)) else (none)) else (none)))) else (none)) else (none)) else (none)) else (none)) else (none))) else (none)) else (none))) else (none))))))) = some r := by first | (rw [hy385]; with_reducible exact H) | (have H2_ := (Option.bind_some _ _).symm.trans H; rw [hy385]; with_reducible exact H2_) | (have H2_ := (Option.bind_some _ _).symm.trans H; with_reducible exact H2_) | with_reducible exact H | (rw [hy385]; exact H) | exact H
 have Ny385 := Aside0.mk hy385
 clear hy385
 replace H := Option.bind_eq_some_iff.mp H
 obtain ⟨⟨t388, t391, t394⟩, A90, H⟩ := H
 (try dsimp only at H)
 have A9 := Aside0.mk A90
 clear A90
 obtain ⟨y396, hy396⟩ : ∃ y_ : List Int, y_ = (([4] : List Int)) := ⟨_, rfl⟩
 replace H : ((tens_Reshape.f k y322 y325 y396).bind fun bt399 => ((tens_Turn.f k y322 y325 (([0, 0] : List Int))).bind fun bt410 => ((tens_Fold.f k y322 y325 (([3] : List Int))).bind fun bt421 => ((tens_New.f k (([0] : List Int)) 1).bind fun bt432 => (if t344 = 0 then ((tens_Same.f k t338 t341 (([2, 2] : List Int)) (([11, 22, 13, 24] : List Int))).bind fun t446 => (if t446 = true then (if t355 = 0 then ((tens_Same.f k t349 t352 (([2, 2] : List Int)) (([1, 3, 2, 4] : List Int))).bind fun t453 => (if t453 = true then (if t372 = 4 then (if t383 = 1 then (if t394 = 4 then (if bt399.2.2 = 0 then ((carousellaw6_row.f (([1, 2, 3, 4] : List Int))).bind fun bt457 => ((tens_Same.f k bt399.1 bt399.2.1 bt457.1 bt457.2).bind fun t463 => (if t463 = true then (if bt410.2.2 = 1 then (if bt421.2.2 = 4 then (some (bt432.2.2 == 1)) else (none)) else (none)) else (none)))) else (none)) else (none)) else (none)) else (none)) else (none))) else (none)) else (none))) else (none)))))) = some r := by first | (rw [hy396]; with_reducible exact H) | (have H2_ := (Option.bind_some _ _).symm.trans H; rw [hy396]; with_reducible exact H2_) | (have H2_ := (Option.bind_some _ _).symm.trans H; with_reducible exact H2_) | with_reducible exact H | (rw [hy396]; exact H) | exact H
 have Ny396 := Aside0.mk hy396
 clear hy396
 replace H := Option.bind_eq_some_iff.mp H
 obtain ⟨⟨t399, t402, t405⟩, A100, H⟩ := H
 (try dsimp only at H)
 have A10 := Aside0.mk A100
 clear A100
 obtain ⟨y407, hy407⟩ : ∃ y_ : List Int, y_ = (([0, 0] : List Int)) := ⟨_, rfl⟩
 replace H : ((tens_Turn.f k y322 y325 y407).bind fun bt410 => ((tens_Fold.f k y322 y325 (([3] : List Int))).bind fun bt421 => ((tens_New.f k (([0] : List Int)) 1).bind fun bt432 => (if t344 = 0 then ((tens_Same.f k t338 t341 (([2, 2] : List Int)) (([11, 22, 13, 24] : List Int))).bind fun t446 => (if t446 = true then (if t355 = 0 then ((tens_Same.f k t349 t352 (([2, 2] : List Int)) (([1, 3, 2, 4] : List Int))).bind fun t453 => (if t453 = true then (if t372 = 4 then (if t383 = 1 then (if t394 = 4 then (if t405 = 0 then ((carousellaw6_row.f (([1, 2, 3, 4] : List Int))).bind fun bt457 => ((tens_Same.f k t399 t402 bt457.1 bt457.2).bind fun t463 => (if t463 = true then (if bt410.2.2 = 1 then (if bt421.2.2 = 4 then (some (bt432.2.2 == 1)) else (none)) else (none)) else (none)))) else (none)) else (none)) else (none)) else (none)) else (none))) else (none)) else (none))) else (none))))) = some r := by first | (rw [hy407]; with_reducible exact H) | (have H2_ := (Option.bind_some _ _).symm.trans H; rw [hy407]; with_reducible exact H2_) | (have H2_ := (Option.bind_some _ _).symm.trans H; with_reducible exact H2_) | with_reducible exact H | (rw [hy407]; exact H) | exact H
 have Ny407 := Aside0.mk hy407
 clear hy407
 replace H := Option.bind_eq_some_iff.mp H
 obtain ⟨⟨t410, t413, t416⟩, A110, H⟩ := H
 (try dsimp only at H)
 have A11 := Aside0.mk A110
 clear A110
 obtain ⟨y418, hy418⟩ : ∃ y_ : List Int, y_ = (([3] : List Int)) := ⟨_, rfl⟩
 replace H : ((tens_Fold.f k y322 y325 y418).bind fun bt421 => ((tens_New.f k (([0] : List Int)) 1).bind fun bt432 => (if t344 = 0 then ((tens_Same.f k t338 t341 (([2, 2] : List Int)) (([11, 22, 13, 24] : List Int))).bind fun t446 => (if t446 = true then (if t355 = 0 then ((tens_Same.f k t349 t352 (([2, 2] : List Int)) (([1, 3, 2, 4] : List Int))).bind fun t453 => (if t453 = true then (if t372 = 4 then (if t383 = 1 then (if t394 = 4 then (if t405 = 0 then ((carousellaw6_row.f (([1, 2, 3, 4] : List Int))).bind fun bt457 => ((tens_Same.f k t399 t402 bt457.1 bt457.2).bind fun t463 => (if t463 = true then (if t416 = 1 then (if bt421.2.2 = 4 then (some (bt432.2.2 == 1)) else (none)) else (none)) else (none)))) else (none)) else (none)) else (none)) else (none)) else (none))) else (none)) else (none))) else (none)))) = some r := by first | (rw [hy418]; with_reducible exact H) | (have H2_ := (Option.bind_some _ _).symm.trans H; rw [hy418]; with_reducible exact H2_) | (have H2_ := (Option.bind_some _ _).symm.trans H; with_reducible exact H2_) | with_reducible exact H | (rw [hy418]; exact H) | exact H
 have Ny418 := Aside0.mk hy418
 clear hy418
 replace H := Option.bind_eq_some_iff.mp H
 obtain ⟨⟨t421, t424, t427⟩, A120, H⟩ := H
 (try dsimp only at H)
 have A12 := Aside0.mk A120
 clear A120
 obtain ⟨y429, hy429⟩ : ∃ y_ : List Int, y_ = (([0] : List Int)) := ⟨_, rfl⟩
 replace H : ((tens_New.f k y429 1).bind fun bt432 => (if t344 = 0 then ((tens_Same.f k t338 t341 (([2, 2] : List Int)) (([11, 22, 13, 24] : List Int))).bind fun t446 => (if t446 = true then (if t355 = 0 then ((tens_Same.f k t349 t352 (([2, 2] : List Int)) (([1, 3, 2, 4] : List Int))).bind fun t453 => (if t453 = true then (if t372 = 4 then (if t383 = 1 then (if t394 = 4 then (if t405 = 0 then ((carousellaw6_row.f (([1, 2, 3, 4] : List Int))).bind fun bt457 => ((tens_Same.f k t399 t402 bt457.1 bt457.2).bind fun t463 => (if t463 = true then (if t416 = 1 then (if t427 = 4 then (some (bt432.2.2 == 1)) else (none)) else (none)) else (none)))) else (none)) else (none)) else (none)) else (none)) else (none))) else (none)) else (none))) else (none))) = some r := by first | (rw [hy429]; with_reducible exact H) | (have H2_ := (Option.bind_some _ _).symm.trans H; rw [hy429]; with_reducible exact H2_) | (have H2_ := (Option.bind_some _ _).symm.trans H; with_reducible exact H2_) | with_reducible exact H | (rw [hy429]; exact H) | exact H
 have Ny429 := Aside0.mk hy429
 clear hy429
 replace H := Option.bind_eq_some_iff.mp H
 obtain ⟨⟨t432, t435, t438⟩, A130, H⟩ := H
 (try dsimp only at H)
 have A13 := Aside0.mk A130
 clear A130
 by_cases c14 : t344 = 0
 rotate_left
 ·rw [if_neg c14] at H
  have c14b0 : (t344 == 0) = false := beq_eq_false_iff_ne.mpr c14
  have c14b1 : (t344 != 0) = true := bne_iff_ne.mpr c14
  exact absurd H (by simp)
 rw [if_pos c14] at H
 have c14b0 : (t344 == 0) = true := beq_iff_eq.mpr c14
 have c14b1 : (t344 != 0) = false := bne_eq_false_iff_eq.mpr c14
 clear c14
 obtain ⟨y440, hy440⟩ : ∃ y_ : List Int, y_ = (([2, 2] : List Int)) := ⟨_, rfl⟩
 replace H : ((tens_Same.f k t338 t341 y440 (([11, 22, 13, 24] : List Int))).bind fun t446 => (if t446 = true then (if t355 = 0 then ((tens_Same.f k t349 t352 (([2, 2] : List Int)) (([1, 3, 2, 4] : List Int))).bind fun t453 => (if t453 = true then (if t372 = 4 then (if t383 = 1 then (if t394 = 4 then (if t405 = 0 then ((carousellaw6_row.f (([1, 2, 3, 4] : List Int))).bind fun bt457 => ((tens_Same.f k t399 t402 bt457.1 bt457.2).bind fun t463 => (if t463 = true then (if t416 = 1 then (if t427 = 4 then (some (t438 == 1)) else (none)) else (none)) else (none)))) else (none)) else (none)) else (none)) else (none)) else (none))) else (none)) else (none))) = some r := by first | (rw [hy440]; with_reducible exact H) | (have H2_ := (Option.bind_some _ _).symm.trans H; rw [hy440]; with_reducible exact H2_) | (have H2_ := (Option.bind_some _ _).symm.trans H; with_reducible exact H2_) | with_reducible exact H | (rw [hy440]; exact H) | exact H
 have Ny440 := Aside0.mk hy440
 clear hy440
 obtain ⟨y443, hy443⟩ : ∃ y_ : List Int, y_ = (([11, 22, 13, 24] : List Int)) := ⟨_, rfl⟩
 replace H : ((tens_Same.f k t338 t341 y440 y443).bind fun t446 => (if t446 = true then (if t355 = 0 then ((tens_Same.f k t349 t352 (([2, 2] : List Int)) (([1, 3, 2, 4] : List Int))).bind fun t453 => (if t453 = true then (if t372 = 4 then (if t383 = 1 then (if t394 = 4 then (if t405 = 0 then ((carousellaw6_row.f (([1, 2, 3, 4] : List Int))).bind fun bt457 => ((tens_Same.f k t399 t402 bt457.1 bt457.2).bind fun t463 => (if t463 = true then (if t416 = 1 then (if t427 = 4 then (some (t438 == 1)) else (none)) else (none)) else (none)))) else (none)) else (none)) else (none)) else (none)) else (none))) else (none)) else (none))) = some r := by first | (rw [hy443]; with_reducible exact H) | (have H2_ := (Option.bind_some _ _).symm.trans H; rw [hy443]; with_reducible exact H2_) | (have H2_ := (Option.bind_some _ _).symm.trans H; with_reducible exact H2_) | with_reducible exact H | (rw [hy443]; exact H) | exact H
 have Ny443 := Aside0.mk hy443
 clear hy443
 replace H := Option.bind_eq_some_iff.mp H
 obtain ⟨t446, A150, H⟩ := H
 (try dsimp only at H)
 have A15 := Aside0.mk A150
 clear A150
 by_cases c16 : t446 = true
 rotate_left
 ·replace c16 := Bool.eq_false_iff.mpr c16
  subst c16
  have H1 : (none) = some r := by rw [if_neg (show ¬ (false = true) by decide)] at H; exact H
  clear H
  have H := H1
  clear H1
  exact absurd H (by simp)
 subst c16
 have H1 := H
 rw [if_pos rfl] at H1
 clear H
 have H := H1
 clear H1
 by_cases c17 : t355 = 0
 rotate_left
 ·rw [if_neg c17] at H
  have c17b0 : (t355 == 0) = false := beq_eq_false_iff_ne.mpr c17
  have c17b1 : (t355 != 0) = true := bne_iff_ne.mpr c17
  exact absurd H (by simp)
 rw [if_pos c17] at H
 have c17b0 : (t355 == 0) = true := beq_iff_eq.mpr c17
 have c17b1 : (t355 != 0) = false := bne_eq_false_iff_eq.mpr c17
 clear c17
 obtain ⟨y447, hy447⟩ : ∃ y_ : List Int, y_ = (([2, 2] : List Int)) := ⟨_, rfl⟩
 replace H : ((tens_Same.f k t349 t352 y447 (([1, 3, 2, 4] : List Int))).bind fun t453 => (if t453 = true then (if t372 = 4 then (if t383 = 1 then (if t394 = 4 then (if t405 = 0 then ((carousellaw6_row.f (([1, 2, 3, 4] : List Int))).bind fun bt457 => ((tens_Same.f k t399 t402 bt457.1 bt457.2).bind fun t463 => (if t463 = true then (if t416 = 1 then (if t427 = 4 then (some (t438 == 1)) else (none)) else (none)) else (none)))) else (none)) else (none)) else (none)) else (none)) else (none))) = some r := by first | (rw [hy447]; with_reducible exact H) | (have H2_ := (Option.bind_some _ _).symm.trans H; rw [hy447]; with_reducible exact H2_) | (have H2_ := (Option.bind_some _ _).symm.trans H; with_reducible exact H2_) | with_reducible exact H | (rw [hy447]; exact H) | exact H
 have Ny447 := Aside0.mk hy447
 clear hy447
 obtain ⟨y450, hy450⟩ : ∃ y_ : List Int, y_ = (([1, 3, 2, 4] : List Int)) := ⟨_, rfl⟩
 replace H : ((tens_Same.f k t349 t352 y447 y450).bind fun t453 => (if t453 = true then (if t372 = 4 then (if t383 = 1 then (if t394 = 4 then (if t405 = 0 then ((carousellaw6_row.f (([1, 2, 3, 4] : List Int))).bind fun bt457 => ((tens_Same.f k t399 t402 bt457.1 bt457.2).bind fun t463 => (if t463 = true then (if t416 = 1 then (if t427 = 4 then (some (t438 == 1)) else (none)) else (none)) else (none)))) else (none)) else (none)) else (none)) else (none)) else (none))) = some r := by first | (rw [hy450]; with_reducible exact H) | (have H2_ := (Option.bind_some _ _).symm.trans H; rw [hy450]; with_reducible exact H2_) | (have H2_ := (Option.bind_some _ _).symm.trans H; with_reducible exact H2_) | with_reducible exact H | (rw [hy450]; exact H) | exact H
 have Ny450 := Aside0.mk hy450
 clear hy450
 replace H := Option.bind_eq_some_iff.mp H
 obtain ⟨t453, A180, H⟩ := H
 (try dsimp only at H)
 have A18 := Aside0.mk A180
 clear A180
 by_cases c19 : t453 = true
 rotate_left
 ·replace c19 := Bool.eq_false_iff.mpr c19
  subst c19
  have H1 : (none) = some r := by rw [if_neg (show ¬ (false = true) by decide)] at H; exact H
  clear H
  have H := H1
  clear H1
  exact absurd H (by simp)
 subst c19
 have H1 := H
 rw [if_pos rfl] at H1
 clear H
 have H := H1
 clear H1
 by_cases c20 : t372 = 4
 rotate_left
 ·rw [if_neg c20] at H
  have c20b0 : (t372 == 4) = false := beq_eq_false_iff_ne.mpr c20
  have c20b1 : (t372 != 4) = true := bne_iff_ne.mpr c20
  exact absurd H (by simp)
 rw [if_pos c20] at H
 have c20b0 : (t372 == 4) = true := beq_iff_eq.mpr c20
 have c20b1 : (t372 != 4) = false := bne_eq_false_iff_eq.mpr c20
 clear c20
 by_cases c21 : t383 = 1
 rotate_left
 ·rw [if_neg c21] at H
  have c21b0 : (t383 == 1) = false := beq_eq_false_iff_ne.mpr c21
  have c21b1 : (t383 != 1) = true := bne_iff_ne.mpr c21
  exact absurd H (by simp)
 rw [if_pos c21] at H
 have c21b0 : (t383 == 1) = true := beq_iff_eq.mpr c21
 have c21b1 : (t383 != 1) = false := bne_eq_false_iff_eq.mpr c21
 clear c21
 by_cases c22 : t394 = 4
 rotate_left
 ·rw [if_neg c22] at H
  have c22b0 : (t394 == 4) = false := beq_eq_false_iff_ne.mpr c22
  have c22b1 : (t394 != 4) = true := bne_iff_ne.mpr c22
  exact absurd H (by simp)
 rw [if_pos c22] at H
 have c22b0 : (t394 == 4) = true := beq_iff_eq.mpr c22
 have c22b1 : (t394 != 4) = false := bne_eq_false_iff_eq.mpr c22
 clear c22
 by_cases c23 : t405 = 0
 rotate_left
 ·rw [if_neg c23] at H
  have c23b0 : (t405 == 0) = false := beq_eq_false_iff_ne.mpr c23
  have c23b1 : (t405 != 0) = true := bne_iff_ne.mpr c23
  exact absurd H (by simp)
 rw [if_pos c23] at H
 have c23b0 : (t405 == 0) = true := beq_iff_eq.mpr c23
 have c23b1 : (t405 != 0) = false := bne_eq_false_iff_eq.mpr c23
 clear c23
 obtain ⟨y454, hy454⟩ : ∃ y_ : List Int, y_ = (([1, 2, 3, 4] : List Int)) := ⟨_, rfl⟩
 replace H : ((carousellaw6_row.f y454).bind fun bt457 => ((tens_Same.f k t399 t402 bt457.1 bt457.2).bind fun t463 => (if t463 = true then (if t416 = 1 then (if t427 = 4 then (some (t438 == 1)) else (none)) else (none)) else (none)))) = some r := by first | (rw [hy454]; with_reducible exact H) | (have H2_ := (Option.bind_some _ _).symm.trans H; rw [hy454]; with_reducible exact H2_) | (have H2_ := (Option.bind_some _ _).symm.trans H; with_reducible exact H2_) | with_reducible exact H | (rw [hy454]; exact H) | exact H
 have Ny454 := Aside0.mk hy454
 clear hy454
 replace H := Option.bind_eq_some_iff.mp H
 obtain ⟨⟨t457, t460⟩, A240, H⟩ := H
 (try dsimp only at H)
 have A24 := Aside0.mk A240
 clear A240
 replace H := Option.bind_eq_some_iff.mp H
 obtain ⟨t463, A250, H⟩ := H
 replace H : (if t463 = true then (if t416 = 1 then (if t427 = 4 then (some (t438 == 1)) else (none)) else (none)) else (none)) = some r := H
 have A25 := Aside0.mk A250
 clear A250
 by_cases c26 : t463 = true
 rotate_left
 ·replace c26 := Bool.eq_false_iff.mpr c26
  subst c26
  have H1 : (none) = some r := by rw [if_neg (show ¬ (false = true) by decide)] at H; exact H
  clear H
  have H := H1
  clear H1
  exact absurd H (by simp)
 subst c26
 have H1 : (if t416 = 1 then (if t427 = 4 then (some (t438 == 1)) else (none)) else (none)) = some r := by rw [if_pos rfl] at H; exact H
 clear H
 have H := H1
 clear H1
 by_cases c27 : t416 = 1
 rotate_left
 ·rw [if_neg c27] at H
  have c27b0 : (t416 == 1) = false := beq_eq_false_iff_ne.mpr c27
  have c27b1 : (t416 != 1) = true := bne_iff_ne.mpr c27
  exact absurd H (by simp)
 rw [if_pos c27] at H
 have c27b0 : (t416 == 1) = true := beq_iff_eq.mpr c27
 have c27b1 : (t416 != 1) = false := bne_eq_false_iff_eq.mpr c27
 clear c27
 by_cases c28 : t427 = 4
 rotate_left
 ·rw [if_neg c28] at H
  have c28b0 : (t427 == 4) = false := beq_eq_false_iff_ne.mpr c28
  have c28b1 : (t427 != 4) = true := bne_iff_ne.mpr c28
  exact absurd H (by simp)
 rw [if_pos c28] at H
 have c28b0 : (t427 == 4) = true := beq_iff_eq.mpr c28
 have c28b1 : (t427 != 4) = false := bne_eq_false_iff_eq.mpr c28
 clear c28
 obtain rfl := Option.some.inj H
 go_enter Try.func9, Try.ntmps9
 try go_wp2_with (first | ((with_reducible refine gate_callee (f := 11) rfl ?_); refine zg_ (some 20) Try.func11 #[] (h := ?_); (with_reducible refine (carousellaw6_awake.calls k  true _ A1.out).mono ?_); rintro e w29 ⟨rfl, hb⟩; refine ⟨_, rfl, ?_⟩; replace HB := Aside0.mk (below_step (zw0_ HB) hb); (try clear hb)) | ((with_reducible refine gate_dst (N := 22) rfl ?_); (try (refine gate_guard (by rfl) ?_; dsimp only)); refine Kd.R_lit (Kd.int .i64) _ 3 ?hg (N := 22) ?hd (xs := ([2, 2] : List Int)) (inner := [.int .i64 2, .int .i64 2]) (ok := fun _ => True) (okp := fun _ => True) ?hr ?hp (fun _ hk => hk) trivial (Below.refl _ _) (Nat.le_refl _) (by simp) ?_; (case hd => rfl); (case hg => rfl); (case hr => first | (go_simp; done) | (go_simp; rfl)); (case hp => exact (Reps.one (show Kd.M (Kd.int .i64) _ _ _ 2 [.int .i64 2] from rfl) (Reps.one (show Kd.M (Kd.int .i64) _ _ _ 2 [.int .i64 2] from rfl) (Reps.none _ _)))); intro v323 w30 ho31 hb hg_ hnew_; clear hg_ hnew_; (first | rw [← Ny322.out] at ho31 | (simp only [Int.reduceToNat] at ho31; rw [← Ny322.out] at ho31)); have HO324 := Aside0.mk (Kd.R_lower ho31 (below_size (zw0_ HB))); replace HB := Aside0.mk (below_step (zw0_ HB) hb); clear hb ho31) | ((with_reducible refine gate_dst (N := 23) rfl ?_); (try (refine gate_guard (by rfl) ?_; dsimp only)); refine Kd.R_lit (Kd.int .i64) _ 23 ?hg (N := 23) ?hd (xs := ([1, 2, 3, 4] : List Int)) (inner := [.int .i64 1, .int .i64 2, .int .i64 3, .int .i64 4]) (ok := fun _ => True) (okp := fun _ => True) ?hr ?hp (fun _ hk => hk) trivial (Below.refl _ _) (Nat.le_refl _) (by simp) ?_; (case hd => rfl); (case hg => rfl); (case hr => first | (go_simp; done) | (go_simp; rfl)); (case hp => exact (Reps.one (show Kd.M (Kd.int .i64) _ _ _ 1 [.int .i64 1] from rfl) (Reps.one (show Kd.M (Kd.int .i64) _ _ _ 2 [.int .i64 2] from rfl) (Reps.one (show Kd.M (Kd.int .i64) _ _ _ 3 [.int .i64 3] from rfl) (Reps.one (show Kd.M (Kd.int .i64) _ _ _ 4 [.int .i64 4] from rfl) (Reps.none _ _)))))); intro v326 w32 ho33 hb hg_ hnew_; clear hg_ hnew_; (first | rw [← Ny325.out] at ho33 | (simp only [Int.reduceToNat] at ho33; rw [← Ny325.out] at ho33)); replace HO324 := zy_ HO324 hb; have HO327 := Aside0.mk (Kd.R_lower ho33 (below_size (zw0_ HB))); replace HB := Aside0.mk (below_step (zw0_ HB) hb); clear hb ho33; obtain ⟨Ao34, co34, eo34⟩ := Kd.R_slice HO327.out; subst eo34; obtain ⟨Ao35, co35, eo35⟩ := Kd.R_slice HO324.out; subst eo35) | ((with_reducible refine gate_dst (N := 1) rfl ?_); (try (refine gate_guard (by rfl) ?_; dsimp only)); refine box_event ?hg (N := 1) ?hd (cs := #[.slice none 0 0, .slice none 0 0]) (t := 27) ?hr ?_; (case hd => rfl); (case hg => rfl); (case hr => first | (go_simp; done) | (go_simp; rfl)); intro gb328 hg w36 hbox hb; replace HO324 := zy_ HO324 hb; replace HO327 := zy_ HO327 hb; have BK328 := Aside0.mk (hbox); have GW328 := Aside0.mk (zs_ hg (zw0_ HB)); have GE328 := Aside0.mk (zs_ hg (zw0_ HB)); replace HB := Aside0.mk (below_step (zw0_ HB) hb); clear hb hbox hg; have hcz37_0 := zx_ (v := .slice none 0 0) BK328 0; have hcz37_1 := zx_ (v := .slice none 0 0) BK328 1; have hfz37_0 := blk_frozen BK328.out 0; have hfz37_1 := blk_frozen BK328.out 1))
 have n0_ : Aside0 (Kd.R (Kd.int .i64) 3 ((w36.setCell ⟨gb328, 0, none⟩ (.slice Ao35 y322.length co35)).setCell ⟨gb328, 1, none⟩ (.slice Ao34 y325.length co34)) w.heap.size (fun _ => True) (.slice Ao35 y322.length co35) y322) := ⟨zr_ (Kd.R_mono (Kd.R_far (p := ⟨gb328, 1, none⟩) (Kd.R_far (p := ⟨gb328, 0, none⟩) (Kd.R_types HO324.out BK328.out (by decide)) (fun _ hk => hk.2) (.slice Ao35 y322.length co35)) (fun _ hk => hk.2) (.slice Ao34 y325.length co34)) (fun _ hk => trivial))⟩
 have n1_ : Aside0 (Kd.R (Kd.int .i64) 23 ((w36.setCell ⟨gb328, 0, none⟩ (.slice Ao35 y322.length co35)).setCell ⟨gb328, 1, none⟩ (.slice Ao34 y325.length co34)) w.heap.size (fun _ => True) (.slice Ao34 y325.length co34) y325) := ⟨zr_ (Kd.R_mono (Kd.R_far (p := ⟨gb328, 1, none⟩) (Kd.R_far (p := ⟨gb328, 0, none⟩) (Kd.R_types HO327.out BK328.out (by decide)) (fun _ hk => hk.2) (.slice Ao35 y322.length co35)) (fun _ hk => hk.2) (.slice Ao34 y325.length co34)) (fun _ hk => trivial))⟩
 have n2_ : Aside0 (((w36.setCell ⟨gb328, 0, none⟩ (.slice Ao35 y322.length co35)).setCell ⟨gb328, 1, none⟩ (.slice Ao34 y325.length co34)).heap[gb328]? = some (.cells #[.slice Ao35 y322.length co35, .slice Ao34 y325.length co34] 27 (0, 0))) := ⟨zo2_ BK328⟩
 have n3_ : Aside0 (Below w.heap.size w ((w36.setCell ⟨gb328, 0, none⟩ (.slice Ao35 y322.length co35)).setCell ⟨gb328, 1, none⟩ (.slice Ao34 y325.length co34))) := ⟨zw1_ HB GE328⟩
 (try clear HO324)
 (try clear HO327)
 (try clear BK328)
 (try clear HB)
 generalize ((w36.setCell ⟨gb328, 0, none⟩ (.slice Ao35 y322.length co35)).setCell ⟨gb328, 1, none⟩ (.slice Ao34 y325.length co34)) = w38 at n0_ n1_ n2_ n3_ ⊢
 have HO324 := n0_
 have HO327 := n1_
 have BK328 := n2_
 have HB := n3_
 clear n0_ n1_ n2_ n3_
 replace HO324 := Aside0.mk (Kd.R_drew HO324.out)
 replace HO327 := Aside0.mk (Kd.R_drew HO327.out)
 replace BK328 := Aside0.mk (blk_drew BK328.out)
 replace HB := Aside0.mk (below_drew1 HB.out)
 refine start_ (n := 10) (S := fun w' => w'.cell? ⟨gb328, 0, none⟩ = some (.slice Ao35 y322.length co35) ∧ w'.cell? ⟨gb328, 1, none⟩ = some (.slice Ao34 y325.length co34)) (ds := []) #[false, false, false, false, false, false, false, false, false, false] (by kernel_rfl) rfl rfl ⟨(blk_cell BK328.out 0).trans rfl, (blk_cell BK328.out 1).trans rfl⟩ (fun hHeld => ?_); refine with_tabW carousellaw6_TensKnown.tab4 carousellaw6_TensKnown.bits4 (fun HT_ HW_ => ?_)
 generalize w38.drew = w39 at HO324 HO327 BK328 HB hHeld ⊢
 refine yt2_ ?_ 0 26
 refine join_ (σ := Value × Value × Value × Value × Value × Nat) 2 #[true, true, true, true, true, true, true, true, false, false] (fun s_ => [(27, s_.1), (28, .agg #[s_.2.1, s_.2.2.1]), (29, .tuple #[.agg #[s_.2.2.2.1, s_.2.2.2.2.1], .int .i64 t344]), (2, .pointer (some ⟨s_.2.2.2.2.2, 0, none⟩)), (25, .tuple #[.agg #[s_.2.2.2.1, s_.2.2.2.2.1], .int .i64 t344]), (30, .agg #[s_.2.2.2.1, s_.2.2.2.2.1]), (31, .int .i64 t344)]) (fun s_ w' => (w'.cell? ⟨gb328, 0, none⟩ = some (.slice Ao35 y322.length co35) ∧ w'.cell? ⟨gb328, 1, none⟩ = some (.slice Ao34 y325.length co34)) ∧ (Kd.R (Kd.int .i64) 3 w' w.heap.size (fun k_ => some k_ ≠ (s_.2.1 : Value).ownBlock ∧ some k_ ≠ (s_.2.2.2.1 : Value).ownBlock) (.slice Ao35 y322.length co35) y322) ∧ (Kd.R (Kd.int .i64) 23 w' w.heap.size (fun k_ => some k_ ≠ (s_.2.2.1 : Value).ownBlock ∧ some k_ ≠ (s_.2.2.2.2.1 : Value).ownBlock) (.slice Ao34 y325.length co34) y325) ∧ (Kd.R (Kd.int .i64) 3 w' w.heap.size (fun k_ => some k_ ≠ (.slice Ao35 y322.length co35 : Value).ownBlock ∧ some k_ ≠ (s_.2.2.2.1 : Value).ownBlock) s_.2.1 t332) ∧ (Kd.R (Kd.int .i64) 23 w' w.heap.size (fun k_ => some k_ ≠ (.slice Ao34 y325.length co34 : Value).ownBlock ∧ some k_ ≠ (s_.2.2.2.2.1 : Value).ownBlock) s_.2.2.1 t335) ∧ (Kd.R (Kd.int .i64) 3 w' w.heap.size (fun k_ => some k_ ≠ (.slice Ao35 y322.length co35 : Value).ownBlock ∧ some k_ ≠ (s_.2.1 : Value).ownBlock) s_.2.2.2.1 t338) ∧ (Kd.R (Kd.int .i64) 23 w' w.heap.size (fun k_ => some k_ ≠ (.slice Ao34 y325.length co34 : Value).ownBlock ∧ some k_ ≠ (s_.2.2.1 : Value).ownBlock) s_.2.2.2.2.1 t341) ∧ (w'.heap[gb328]? = some (.cells #[.slice Ao35 y322.length co35, .slice Ao34 y325.length co34] 27 (0, 0))) ∧ (w'.heap[s_.2.2.2.2.2]? = some (.cells #[.slice none 0 0, .slice none 0 0] 27 (0, 0))) ∧ (w.heap.size ≤ s_.2.2.2.2.2) ∧ (w.heap.size ≤ s_.2.2.2.2.2) ∧ (gb328 ≠ s_.2.2.2.2.2) ∧ (s_.2.2.2.2.2 ≠ gb328) ∧ (Below w.heap.size w w')) ?_ ?_
 rotate_left
 ·intro hCont
  refine two_ (i := 1) (j := 7) (Ni := some 27) (Nj := some 2) #[true, true, false, false, false, false, false, false, false, false] #[true, false, false, false, false, false, false, true, false, false] rfl rfl rfl rfl (two_of HT_.out (by kernel_rfl)) (by decide) (by decide) (fun K hK => ?_) (fun K hK => ?_)
  ·skip
   refine Kd.R_lit_step (Kd.int .i64) _ 23 ?hg (N := 27) ?hd (xs := ([10, 20] : List Int)) (inner := [.int .i64 10, .int .i64 20]) (ok := fun _ => True) (okp := fun _ => True) ?hr ?hp (fun _ hk => hk) trivial (Below.refl _ _) (Nat.le_refl _) (by simp) ?_; (case hd => rfl); (case hg => rfl); (case hr => first | (go_simp; done) | (go_simp; rfl)); (case hp => exact (Reps.one (show Kd.M (Kd.int .i64) _ _ _ 10 [.int .i64 10] from rfl) (Reps.one (show Kd.M (Kd.int .i64) _ _ _ 20 [.int .i64 20] from rfl) (Reps.none _ _))))
   intro v330 w40 ho41 hb hg_ hnew_
   clear hg_ hnew_
   (first | rw [← Ny329.out] at ho41 | (simp only [Int.reduceToNat] at ho41; rw [← Ny329.out] at ho41))
   replace HO324 := zy_ HO324 hb
   have HO331 := Aside0.mk (Kd.R_lower (Kd.R_new' ho41 (Kd.R_lt (zr_ HO327.out))) (below_size (zw1_ HB GE328)))
   replace HO327 := ze_ HO327 ho41 hb
   replace BK328 := za_ BK328 hb
   replace HB := Aside0.mk (below_step (zw1_ HB GE328) hb)
   clear hb ho41
   obtain ⟨Ao42, co42, eo42⟩ := Kd.R_slice HO331.out
   (first | subst eo42 | (injection eo42 with f1_ f2_ f3_; have f4_ := f1_.symm; have f5_ := f3_.symm; clear f1_ f2_ f3_; subst f4_; subst f5_))
   refine hK.out _ _ ⟨zx_ BK328 0, zx_ BK328 1⟩ (fun hHeld => ?_)
   clear hK K
   refine zq_ (some 27) (h := ?_)
   refine two_ (i := 2) (j := 7) (Ni := some 28) (Nj := some 2) #[true, true, true, false, false, false, false, false, false, false] #[true, true, false, false, false, false, false, true, false, false] rfl rfl rfl rfl (two_of HT_.out (by kernel_rfl)) (by decide) (by decide) (fun K hK => ?_) (fun K hK => ?_)
   ·skip
    refine yg_ Try.func28 #[.slice Ao42 y329.length co42] ?_
    with_reducible refine (carousellaw6_row.calls (fun k_ => some k_ = (.slice Ao42 y329.length co42 : Value).ownBlock) (.slice Ao42 y329.length co42) y329 t332 t335 w _ ?side1 ?side2 A3.out).mono ?_
    (case side1 => repeat (first | (with_reducible first | exact HB.out | apply below_alloc | apply pw_below_drewN | apply below_drew1 | refine below_set ?_ GE328.out) | exact HB.out))
    (case side2 => exact Kd.R_tight rfl HO331.out)
    rintro e w43 ⟨v333, v336, rfl, ho0, ho1, hb, hkp⟩
    refine ⟨_, rfl, ?_⟩
    replace BK328 := Aside0.mk (blk_kept (zb_ BK328) hkp (fun hs_ => (fun e_ => (Kd.R_ne HO331.out BK328.out (by decide)) e_) hs_))
    have HO334 := Aside0.mk (Kd.R_mono (ok' := fun k_ => some k_ ≠ (.slice Ao35 y322.length co35 : Value).ownBlock) ho0 (fun k_ hk_ => Or.elim hk_ (fun hs_ => fun e_ => ((((Kd.R_apart' HO324.out (Kd.R_typed HO331.out) (by decide))).1 k_ e_.symm).2) hs_) (fun hn_ => (Kd.fresh' (Kd.R_lt (zr_ HO324.out)) k_ hn_))))
    replace HO324 := Aside0.mk (Kd.R_mono (ok' := fun k_ => some k_ ≠ (v333 : Value).ownBlock) (Kd.R_keptB ((Kd.R_apart' HO324.out (Kd.R_typed HO331.out) (by decide))) hkp (fun k_ hk_ hs_ => (hk_.2) hs_)) (fun k_ hk_ => fun e_ => Or.elim (ho0.1 k_ e_.symm) (fun hs_ => hk_.2.1 hs_) (fun hn_ => Nat.not_le.2 hk_.2.2 hn_)))
    have HO337 := Aside0.mk (Kd.R_mono (ok' := fun k_ => some k_ ≠ (.slice Ao34 y325.length co34 : Value).ownBlock) ho1 (fun k_ hk_ => Or.elim hk_ (fun hs_ => fun e_ => (((HO327.out).1 k_ e_.symm).2) hs_) (fun hn_ => (Kd.fresh' (Kd.R_lt (zr_ HO327.out)) k_ hn_))))
    replace HO327 := Aside0.mk (Kd.R_mono (ok' := fun k_ => some k_ ≠ (v336 : Value).ownBlock) (Kd.R_keptB (HO327.out) hkp (fun k_ hk_ hs_ => (hk_.2) hs_)) (fun k_ hk_ => fun e_ => Or.elim (ho1.1 k_ e_.symm) (fun hs_ => hk_.2.1 hs_) (fun hn_ => Nat.not_le.2 hk_.2.2 hn_)))
    replace HB := Aside0.mk (hb)
    clear HO331
    (try clear hb)
    (try clear hkp)
    (try clear ho0)
    (try clear ho1)
    obtain ⟨Ao44, co44, eo44⟩ := Kd.R_slice HO334.out
    (first | subst eo44 | (injection eo44 with f1_ f2_ f3_; have f4_ := f1_.symm; have f5_ := f3_.symm; clear f1_ f2_ f3_; subst f4_; subst f5_))
    obtain ⟨Ao45, co45, eo45⟩ := Kd.R_slice HO337.out
    (first | subst eo45 | (injection eo45 with f1_ f2_ f3_; have f4_ := f1_.symm; have f5_ := f3_.symm; clear f1_ f2_ f3_; subst f4_; subst f5_))
    refine hK.out _ _ ⟨zx_ BK328 0, zx_ BK328 1⟩ (fun hHeld => ?_)
    clear hK K
    refine zq_ (some 28) (h := ?_)
    refine two_ (i := 3) (j := 7) (Ni := some 29) (Nj := some 2) #[true, true, true, true, false, false, false, false, false, false] #[true, true, true, false, false, false, false, true, false, false] rfl rfl rfl rfl (two_of HT_.out (by kernel_rfl)) (by decide) (by decide) (fun K hK => ?_) (fun K hK => ?_)
    ·skip
     refine yg_ Try.func19 #[.agg #[.slice Ao35 y322.length co35, .slice Ao34 y325.length co34], .agg #[.slice Ao44 t332.length co44, .slice Ao45 t335.length co45]] ?_
     with_reducible refine (tens_Add.calls k _ _ y322 _ _ y325 _ _ t332 _ _ t335 t338 t341 t344 _ ?side1 ?side2 ?side3 ?side4 ?side5 ?side6 ?side7 ?side8 A4.out).mono ?_
     (case side1 => exact zk_ ((Kd.R_reads' HO324.out).2.2))
     (case side2 => exact (Kd.R_reads' HO324.out).2.1)
     (case side3 => exact zk_ ((Kd.R_reads' HO327.out).2.2))
     (case side4 => exact (Kd.R_reads' HO327.out).2.1)
     (case side5 => exact zk_ ((Kd.R_reads' HO334.out).2.2))
     (case side6 => exact (Kd.R_reads' HO334.out).2.1)
     (case side7 => exact zk_ ((Kd.R_reads' HO337.out).2.2))
     (case side8 => exact (Kd.R_reads' HO337.out).2.1)
     rintro e w46 ⟨v339, v342, rfl, ho0, ho1, hb⟩
     refine ⟨_, rfl, ?_⟩
     have HO340 := Aside0.mk (Kd.R_lower (Kd.R_new' (Kd.R_new' ho0 (Kd.R_lt (zr_ HO324.out))) (Kd.R_lt (zr_ HO334.out))) (below_size (zw1_ HB GE328)))
     replace HO324 := ze_ HO324 ho0 hb
     replace HO334 := ze_ HO334 ho0 hb
     have HO343 := Aside0.mk (Kd.R_lower (Kd.R_new' (Kd.R_new' ho1 (Kd.R_lt (zr_ HO327.out))) (Kd.R_lt (zr_ HO337.out))) (below_size (zw1_ HB GE328)))
     replace HO327 := ze_ HO327 ho1 hb
     replace HO337 := ze_ HO337 ho1 hb
     replace BK328 := za_ BK328 hb
     replace HB := Aside0.mk (below_step (zw1_ HB GE328) hb)
     (try clear hb)
     (try clear hb2)
     (try clear hk)
     (try clear hi)
     (try clear ho0)
     (try clear ho1)
     refine hK.out _ _ ⟨zx_ BK328 0, zx_ BK328 1⟩ (fun hHeld => ?_)
     clear hK K
     refine zq_ (some 29) (h := ?_)
     refine yp_ ?_ 4 25
     refine yp_ ?_ 5 30
     refine yp_ ?_ 6 31
     refine yo_ 7 (some 2) (fun K hK => ?_)
     refine box_step ?hg (N := 2) ?hd (cs := #[.slice none 0 0, .slice none 0 0]) (t := 27) ?hr ?_; (case hd => rfl); (case hg => rfl); (case hr => first | (go_simp; done) | (go_simp; rfl))
     intro gb345 hg w47 hbox hb
     replace HO324 := zy_ HO324 hb
     replace HO327 := zy_ HO327 hb
     replace HO334 := zy_ HO334 hb
     replace HO337 := zy_ HO337 hb
     replace HO340 := zy_ HO340 hb
     replace HO343 := zy_ HO343 hb
     have BK345 := Aside0.mk (hbox)
     have GW345 := Aside0.mk (zs_ hg (zw1_ HB GE328))
     have GE345 := Aside0.mk (zs_ hg (zw1_ HB GE328))
     replace HB := Aside0.mk (below_step (zw1_ HB GE328) hb)
     have NB328_345 := Aside0.mk (zn_ hg BK328)
     have NB345_328 := Aside0.mk (zm_ hg BK328)
     replace BK328 := za_ BK328 hb
     clear hb hbox hg
     refine hK.out _ _ ⟨zx_ BK328 0, zx_ BK328 1⟩ (fun hHeld => ?_)
     clear hK K
     refine zq_ (some 2) (h := ?_)
     exact zj_ (hCont (.slice Ao42 y329.length co42, .slice Ao44 t332.length co44, .slice Ao45 t335.length co45, v339, v342, gb345) _ ⟨hHeld, (zr_ HO324.out), (zr_ HO327.out), (zr_ HO334.out), (zr_ HO337.out), (zr_ (Kd.R_mono HO340.out (fun _ hk => ⟨hk.1.2, hk.2⟩))), (zr_ (Kd.R_mono HO343.out (fun _ hk => ⟨hk.1.2, hk.2⟩))), (zb_ BK328), (zb_ BK345), GW345.out, GE345.out, NB328_345.out, NB345_328.out, (zw2_ HB GE328 GE345)⟩)
    skip
    refine box_step ?hg (N := 2) ?hd (cs := #[.slice none 0 0, .slice none 0 0]) (t := 27) ?hr ?_; (case hd => rfl); (case hg => rfl); (case hr => first | (go_simp; done) | (go_simp; rfl))
    intro gb345 hg w44 hbox hb
    replace HO324 := zy_ HO324 hb
    replace HO327 := zy_ HO327 hb
    replace HO334 := zy_ HO334 hb
    replace HO337 := zy_ HO337 hb
    have BK345 := Aside0.mk (hbox)
    have GW345 := Aside0.mk (zs_ hg (zw1_ HB GE328))
    have GE345 := Aside0.mk (zs_ hg (zw1_ HB GE328))
    replace HB := Aside0.mk (below_step (zw1_ HB GE328) hb)
    have NB328_345 := Aside0.mk (zn_ hg BK328)
    have NB345_328 := Aside0.mk (zm_ hg BK328)
    replace BK328 := za_ BK328 hb
    clear hb hbox hg
    obtain ⟨Ao45, co45, eo45⟩ := Kd.R_slice HO334.out
    (first | subst eo45 | (injection eo45 with f1_ f2_ f3_; have f4_ := f1_.symm; have f5_ := f3_.symm; clear f1_ f2_ f3_; subst f4_; subst f5_))
    obtain ⟨Ao46, co46, eo46⟩ := Kd.R_slice HO337.out
    (first | subst eo46 | (injection eo46 with f1_ f2_ f3_; have f4_ := f1_.symm; have f5_ := f3_.symm; clear f1_ f2_ f3_; subst f4_; subst f5_))
    refine hK.out _ _ ⟨zx_ BK328 0, zx_ BK328 1⟩ (fun hHeld => ?_)
    clear hK K
    refine zq_ (some 2) (h := ?_)
    refine yo_ 3 (some 29) (fun K hK => ?_)
    refine yg_ Try.func19 #[.agg #[.slice Ao35 y322.length co35, .slice Ao34 y325.length co34], .agg #[.slice Ao45 t332.length co45, .slice Ao46 t335.length co46]] ?_
    with_reducible refine (tens_Add.calls k _ _ y322 _ _ y325 _ _ t332 _ _ t335 t338 t341 t344 _ ?side1 ?side2 ?side3 ?side4 ?side5 ?side6 ?side7 ?side8 A4.out).mono ?_
    (case side1 => exact zk_ ((Kd.R_reads' HO324.out).2.2))
    (case side2 => exact (Kd.R_reads' HO324.out).2.1)
    (case side3 => exact zk_ ((Kd.R_reads' HO327.out).2.2))
    (case side4 => exact (Kd.R_reads' HO327.out).2.1)
    (case side5 => exact zk_ ((Kd.R_reads' HO334.out).2.2))
    (case side6 => exact (Kd.R_reads' HO334.out).2.1)
    (case side7 => exact zk_ ((Kd.R_reads' HO337.out).2.2))
    (case side8 => exact (Kd.R_reads' HO337.out).2.1)
    rintro e w47 ⟨v339, v342, rfl, ho0, ho1, hb⟩
    refine ⟨_, rfl, ?_⟩
    have HO340 := Aside0.mk (Kd.R_lower (Kd.R_new' (Kd.R_new' ho0 (Kd.R_lt (zr_ HO324.out))) (Kd.R_lt (zr_ HO334.out))) (below_size (zw2_ HB GE328 GE345)))
    replace HO324 := ze_ HO324 ho0 hb
    replace HO334 := ze_ HO334 ho0 hb
    have HO343 := Aside0.mk (Kd.R_lower (Kd.R_new' (Kd.R_new' ho1 (Kd.R_lt (zr_ HO327.out))) (Kd.R_lt (zr_ HO337.out))) (below_size (zw2_ HB GE328 GE345)))
    replace HO327 := ze_ HO327 ho1 hb
    replace HO337 := ze_ HO337 ho1 hb
    replace BK328 := za_ BK328 hb
    replace BK345 := za_ BK345 hb
    replace HB := Aside0.mk (below_step (zw2_ HB GE328 GE345) hb)
    (try clear hb)
    (try clear hb2)
    (try clear hk)
    (try clear hi)
    (try clear ho0)
    (try clear ho1)
    refine hK.out _ _ ⟨zx_ BK328 0, zx_ BK328 1⟩ (fun hHeld => ?_)
    clear hK K
    refine zq_ (some 29) (h := ?_)
    refine yp_ ?_ 4 25
    refine yp_ ?_ 5 30
    refine yp_ ?_ 6 31
    exact zj_ (hCont (.slice Ao42 y329.length co42, .slice Ao45 t332.length co45, .slice Ao46 t335.length co46, v339, v342, gb345) _ ⟨hHeld, (zr_ HO324.out), (zr_ HO327.out), (zr_ HO334.out), (zr_ HO337.out), (zr_ (Kd.R_mono HO340.out (fun _ hk => ⟨hk.1.2, hk.2⟩))), (zr_ (Kd.R_mono HO343.out (fun _ hk => ⟨hk.1.2, hk.2⟩))), (zb_ BK328), (zb_ BK345), GW345.out, GE345.out, NB328_345.out, NB345_328.out, (zw2_ HB GE328 GE345)⟩)
   skip
   refine box_step ?hg (N := 2) ?hd (cs := #[.slice none 0 0, .slice none 0 0]) (t := 27) ?hr ?_; (case hd => rfl); (case hg => rfl); (case hr => first | (go_simp; done) | (go_simp; rfl))
   intro gb345 hg w42 hbox hb
   replace HO324 := zy_ HO324 hb
   replace HO327 := zy_ HO327 hb
   replace HO331 := zy_ HO331 hb
   have BK345 := Aside0.mk (hbox)
   have GW345 := Aside0.mk (zs_ hg (zw1_ HB GE328))
   have GE345 := Aside0.mk (zs_ hg (zw1_ HB GE328))
   replace HB := Aside0.mk (below_step (zw1_ HB GE328) hb)
   have NB328_345 := Aside0.mk (zn_ hg BK328)
   have NB345_328 := Aside0.mk (zm_ hg BK328)
   replace BK328 := za_ BK328 hb
   clear hb hbox hg
   obtain ⟨Ao43, co43, eo43⟩ := Kd.R_slice HO331.out
   (first | subst eo43 | (injection eo43 with f1_ f2_ f3_; have f4_ := f1_.symm; have f5_ := f3_.symm; clear f1_ f2_ f3_; subst f4_; subst f5_))
   refine hK.out _ _ ⟨zx_ BK328 0, zx_ BK328 1⟩ (fun hHeld => ?_)
   clear hK K
   refine zq_ (some 2) (h := ?_)
   refine yo_ 2 (some 28) (fun K hK => ?_)
   refine yg_ Try.func28 #[.slice Ao43 y329.length co43] ?_
   with_reducible refine (carousellaw6_row.calls (fun k_ => some k_ = (.slice Ao43 y329.length co43 : Value).ownBlock) (.slice Ao43 y329.length co43) y329 t332 t335 w _ ?side1 ?side2 A3.out).mono ?_
   (case side1 => repeat (first | (with_reducible first | exact HB.out | apply below_alloc | apply pw_below_drewN | apply below_drew1 | refine below_set ?_ GE328.out | refine below_set ?_ GE345.out) | exact HB.out))
   (case side2 => exact Kd.R_tight rfl HO331.out)
   rintro e w44 ⟨v333, v336, rfl, ho0, ho1, hb, hkp⟩
   refine ⟨_, rfl, ?_⟩
   replace BK328 := Aside0.mk (blk_kept (zb_ BK328) hkp (fun hs_ => (fun e_ => (Kd.R_ne HO331.out BK328.out (by decide)) e_) hs_))
   replace BK345 := Aside0.mk (blk_kept (zb_ BK345) hkp (fun hs_ => (fun e_ => (Kd.R_ne HO331.out BK345.out (by decide)) e_) hs_))
   have HO334 := Aside0.mk (Kd.R_mono (ok' := fun k_ => some k_ ≠ (.slice Ao35 y322.length co35 : Value).ownBlock) ho0 (fun k_ hk_ => Or.elim hk_ (fun hs_ => fun e_ => ((((Kd.R_apart' HO324.out (Kd.R_typed HO331.out) (by decide))).1 k_ e_.symm).2) hs_) (fun hn_ => (Kd.fresh' (Kd.R_lt (zr_ HO324.out)) k_ hn_))))
   replace HO324 := Aside0.mk (Kd.R_mono (ok' := fun k_ => some k_ ≠ (v333 : Value).ownBlock) (Kd.R_keptB ((Kd.R_apart' HO324.out (Kd.R_typed HO331.out) (by decide))) hkp (fun k_ hk_ hs_ => (hk_.2) hs_)) (fun k_ hk_ => fun e_ => Or.elim (ho0.1 k_ e_.symm) (fun hs_ => hk_.2.1 hs_) (fun hn_ => Nat.not_le.2 hk_.2.2 hn_)))
   have HO337 := Aside0.mk (Kd.R_mono (ok' := fun k_ => some k_ ≠ (.slice Ao34 y325.length co34 : Value).ownBlock) ho1 (fun k_ hk_ => Or.elim hk_ (fun hs_ => fun e_ => (((HO327.out).1 k_ e_.symm).2) hs_) (fun hn_ => (Kd.fresh' (Kd.R_lt (zr_ HO327.out)) k_ hn_))))
   replace HO327 := Aside0.mk (Kd.R_mono (ok' := fun k_ => some k_ ≠ (v336 : Value).ownBlock) (Kd.R_keptB (HO327.out) hkp (fun k_ hk_ hs_ => (hk_.2) hs_)) (fun k_ hk_ => fun e_ => Or.elim (ho1.1 k_ e_.symm) (fun hs_ => hk_.2.1 hs_) (fun hn_ => Nat.not_le.2 hk_.2.2 hn_)))
   replace HB := Aside0.mk (hb)
   clear HO331
   (try clear hb)
   (try clear hkp)
   (try clear ho0)
   (try clear ho1)
   obtain ⟨Ao45, co45, eo45⟩ := Kd.R_slice HO334.out
   (first | subst eo45 | (injection eo45 with f1_ f2_ f3_; have f4_ := f1_.symm; have f5_ := f3_.symm; clear f1_ f2_ f3_; subst f4_; subst f5_))
   obtain ⟨Ao46, co46, eo46⟩ := Kd.R_slice HO337.out
   (first | subst eo46 | (injection eo46 with f1_ f2_ f3_; have f4_ := f1_.symm; have f5_ := f3_.symm; clear f1_ f2_ f3_; subst f4_; subst f5_))
   refine hK.out _ _ ⟨zx_ BK328 0, zx_ BK328 1⟩ (fun hHeld => ?_)
   clear hK K
   refine zq_ (some 28) (h := ?_)
   refine yo_ 3 (some 29) (fun K hK => ?_)
   refine yg_ Try.func19 #[.agg #[.slice Ao35 y322.length co35, .slice Ao34 y325.length co34], .agg #[.slice Ao45 t332.length co45, .slice Ao46 t335.length co46]] ?_
   with_reducible refine (tens_Add.calls k _ _ y322 _ _ y325 _ _ t332 _ _ t335 t338 t341 t344 _ ?side1 ?side2 ?side3 ?side4 ?side5 ?side6 ?side7 ?side8 A4.out).mono ?_
   (case side1 => exact zk_ ((Kd.R_reads' HO324.out).2.2))
   (case side2 => exact (Kd.R_reads' HO324.out).2.1)
   (case side3 => exact zk_ ((Kd.R_reads' HO327.out).2.2))
   (case side4 => exact (Kd.R_reads' HO327.out).2.1)
   (case side5 => exact zk_ ((Kd.R_reads' HO334.out).2.2))
   (case side6 => exact (Kd.R_reads' HO334.out).2.1)
   (case side7 => exact zk_ ((Kd.R_reads' HO337.out).2.2))
   (case side8 => exact (Kd.R_reads' HO337.out).2.1)
   rintro e w47 ⟨v339, v342, rfl, ho0, ho1, hb⟩
   refine ⟨_, rfl, ?_⟩
   have HO340 := Aside0.mk (Kd.R_lower (Kd.R_new' (Kd.R_new' ho0 (Kd.R_lt (zr_ HO324.out))) (Kd.R_lt (zr_ HO334.out))) (below_size (zw2_ HB GE328 GE345)))
   replace HO324 := ze_ HO324 ho0 hb
   replace HO334 := ze_ HO334 ho0 hb
   have HO343 := Aside0.mk (Kd.R_lower (Kd.R_new' (Kd.R_new' ho1 (Kd.R_lt (zr_ HO327.out))) (Kd.R_lt (zr_ HO337.out))) (below_size (zw2_ HB GE328 GE345)))
   replace HO327 := ze_ HO327 ho1 hb
   replace HO337 := ze_ HO337 ho1 hb
   replace BK328 := za_ BK328 hb
   replace BK345 := za_ BK345 hb
   replace HB := Aside0.mk (below_step (zw2_ HB GE328 GE345) hb)
   (try clear hb)
   (try clear hb2)
   (try clear hk)
   (try clear hi)
   (try clear ho0)
   (try clear ho1)
   refine hK.out _ _ ⟨zx_ BK328 0, zx_ BK328 1⟩ (fun hHeld => ?_)
   clear hK K
   refine zq_ (some 29) (h := ?_)
   refine yp_ ?_ 4 25
   refine yp_ ?_ 5 30
   refine yp_ ?_ 6 31
   exact zj_ (hCont (.slice Ao43 y329.length co43, .slice Ao45 t332.length co45, .slice Ao46 t335.length co46, v339, v342, gb345) _ ⟨hHeld, (zr_ HO324.out), (zr_ HO327.out), (zr_ HO334.out), (zr_ HO337.out), (zr_ (Kd.R_mono HO340.out (fun _ hk => ⟨hk.1.2, hk.2⟩))), (zr_ (Kd.R_mono HO343.out (fun _ hk => ⟨hk.1.2, hk.2⟩))), (zb_ BK328), (zb_ BK345), GW345.out, GE345.out, NB328_345.out, NB345_328.out, (zw2_ HB GE328 GE345)⟩)
  skip
  refine box_step ?hg (N := 2) ?hd (cs := #[.slice none 0 0, .slice none 0 0]) (t := 27) ?hr ?_; (case hd => rfl); (case hg => rfl); (case hr => first | (go_simp; done) | (go_simp; rfl))
  intro gb345 hg w40 hbox hb
  replace HO324 := zy_ HO324 hb
  replace HO327 := zy_ HO327 hb
  have BK345 := Aside0.mk (hbox)
  have GW345 := Aside0.mk (zs_ hg (zw1_ HB GE328))
  have GE345 := Aside0.mk (zs_ hg (zw1_ HB GE328))
  replace HB := Aside0.mk (below_step (zw1_ HB GE328) hb)
  have NB328_345 := Aside0.mk (zn_ hg BK328)
  have NB345_328 := Aside0.mk (zm_ hg BK328)
  replace BK328 := za_ BK328 hb
  clear hb hbox hg
  refine hK.out _ _ ⟨zx_ BK328 0, zx_ BK328 1⟩ (fun hHeld => ?_)
  clear hK K
  refine zq_ (some 2) (h := ?_)
  refine yo_ 1 (some 27) (fun K hK => ?_)
  refine Kd.R_lit_step (Kd.int .i64) _ 23 ?hg (N := 27) ?hd (xs := ([10, 20] : List Int)) (inner := [.int .i64 10, .int .i64 20]) (ok := fun _ => True) (okp := fun _ => True) ?hr ?hp (fun _ hk => hk) trivial (Below.refl _ _) (Nat.le_refl _) (by simp) ?_; (case hd => rfl); (case hg => rfl); (case hr => first | (go_simp; done) | (go_simp; rfl)); (case hp => exact (Reps.one (show Kd.M (Kd.int .i64) _ _ _ 10 [.int .i64 10] from rfl) (Reps.one (show Kd.M (Kd.int .i64) _ _ _ 20 [.int .i64 20] from rfl) (Reps.none _ _))))
  intro v330 w41 ho42 hb hg_ hnew_
  clear hg_ hnew_
  (first | rw [← Ny329.out] at ho42 | (simp only [Int.reduceToNat] at ho42; rw [← Ny329.out] at ho42))
  replace HO324 := zy_ HO324 hb
  have HO331 := Aside0.mk (Kd.R_lower (Kd.R_new' ho42 (Kd.R_lt (zr_ HO327.out))) (below_size (zw2_ HB GE328 GE345)))
  replace HO327 := ze_ HO327 ho42 hb
  replace BK328 := za_ BK328 hb
  replace BK345 := za_ BK345 hb
  replace HB := Aside0.mk (below_step (zw2_ HB GE328 GE345) hb)
  clear hb ho42
  obtain ⟨Ao43, co43, eo43⟩ := Kd.R_slice HO331.out
  (first | subst eo43 | (injection eo43 with f1_ f2_ f3_; have f4_ := f1_.symm; have f5_ := f3_.symm; clear f1_ f2_ f3_; subst f4_; subst f5_))
  refine hK.out _ _ ⟨zx_ BK328 0, zx_ BK328 1⟩ (fun hHeld => ?_)
  clear hK K
  refine zq_ (some 27) (h := ?_)
  refine yo_ 2 (some 28) (fun K hK => ?_)
  refine yg_ Try.func28 #[.slice Ao43 y329.length co43] ?_
  with_reducible refine (carousellaw6_row.calls (fun k_ => some k_ = (.slice Ao43 y329.length co43 : Value).ownBlock) (.slice Ao43 y329.length co43) y329 t332 t335 w _ ?side1 ?side2 A3.out).mono ?_
  (case side1 => repeat (first | (with_reducible first | exact HB.out | apply below_alloc | apply pw_below_drewN | apply below_drew1 | refine below_set ?_ GE328.out | refine below_set ?_ GE345.out) | exact HB.out))
  (case side2 => exact Kd.R_tight rfl HO331.out)
  rintro e w44 ⟨v333, v336, rfl, ho0, ho1, hb, hkp⟩
  refine ⟨_, rfl, ?_⟩
  replace BK328 := Aside0.mk (blk_kept (zb_ BK328) hkp (fun hs_ => (fun e_ => (Kd.R_ne HO331.out BK328.out (by decide)) e_) hs_))
  replace BK345 := Aside0.mk (blk_kept (zb_ BK345) hkp (fun hs_ => (fun e_ => (Kd.R_ne HO331.out BK345.out (by decide)) e_) hs_))
  have HO334 := Aside0.mk (Kd.R_mono (ok' := fun k_ => some k_ ≠ (.slice Ao35 y322.length co35 : Value).ownBlock) ho0 (fun k_ hk_ => Or.elim hk_ (fun hs_ => fun e_ => ((((Kd.R_apart' HO324.out (Kd.R_typed HO331.out) (by decide))).1 k_ e_.symm).2) hs_) (fun hn_ => (Kd.fresh' (Kd.R_lt (zr_ HO324.out)) k_ hn_))))
  replace HO324 := Aside0.mk (Kd.R_mono (ok' := fun k_ => some k_ ≠ (v333 : Value).ownBlock) (Kd.R_keptB ((Kd.R_apart' HO324.out (Kd.R_typed HO331.out) (by decide))) hkp (fun k_ hk_ hs_ => (hk_.2) hs_)) (fun k_ hk_ => fun e_ => Or.elim (ho0.1 k_ e_.symm) (fun hs_ => hk_.2.1 hs_) (fun hn_ => Nat.not_le.2 hk_.2.2 hn_)))
  have HO337 := Aside0.mk (Kd.R_mono (ok' := fun k_ => some k_ ≠ (.slice Ao34 y325.length co34 : Value).ownBlock) ho1 (fun k_ hk_ => Or.elim hk_ (fun hs_ => fun e_ => (((HO327.out).1 k_ e_.symm).2) hs_) (fun hn_ => (Kd.fresh' (Kd.R_lt (zr_ HO327.out)) k_ hn_))))
  replace HO327 := Aside0.mk (Kd.R_mono (ok' := fun k_ => some k_ ≠ (v336 : Value).ownBlock) (Kd.R_keptB (HO327.out) hkp (fun k_ hk_ hs_ => (hk_.2) hs_)) (fun k_ hk_ => fun e_ => Or.elim (ho1.1 k_ e_.symm) (fun hs_ => hk_.2.1 hs_) (fun hn_ => Nat.not_le.2 hk_.2.2 hn_)))
  replace HB := Aside0.mk (hb)
  clear HO331
  (try clear hb)
  (try clear hkp)
  (try clear ho0)
  (try clear ho1)
  obtain ⟨Ao45, co45, eo45⟩ := Kd.R_slice HO334.out
  (first | subst eo45 | (injection eo45 with f1_ f2_ f3_; have f4_ := f1_.symm; have f5_ := f3_.symm; clear f1_ f2_ f3_; subst f4_; subst f5_))
  obtain ⟨Ao46, co46, eo46⟩ := Kd.R_slice HO337.out
  (first | subst eo46 | (injection eo46 with f1_ f2_ f3_; have f4_ := f1_.symm; have f5_ := f3_.symm; clear f1_ f2_ f3_; subst f4_; subst f5_))
  refine hK.out _ _ ⟨zx_ BK328 0, zx_ BK328 1⟩ (fun hHeld => ?_)
  clear hK K
  refine zq_ (some 28) (h := ?_)
  refine yo_ 3 (some 29) (fun K hK => ?_)
  refine yg_ Try.func19 #[.agg #[.slice Ao35 y322.length co35, .slice Ao34 y325.length co34], .agg #[.slice Ao45 t332.length co45, .slice Ao46 t335.length co46]] ?_
  with_reducible refine (tens_Add.calls k _ _ y322 _ _ y325 _ _ t332 _ _ t335 t338 t341 t344 _ ?side1 ?side2 ?side3 ?side4 ?side5 ?side6 ?side7 ?side8 A4.out).mono ?_
  (case side1 => exact zk_ ((Kd.R_reads' HO324.out).2.2))
  (case side2 => exact (Kd.R_reads' HO324.out).2.1)
  (case side3 => exact zk_ ((Kd.R_reads' HO327.out).2.2))
  (case side4 => exact (Kd.R_reads' HO327.out).2.1)
  (case side5 => exact zk_ ((Kd.R_reads' HO334.out).2.2))
  (case side6 => exact (Kd.R_reads' HO334.out).2.1)
  (case side7 => exact zk_ ((Kd.R_reads' HO337.out).2.2))
  (case side8 => exact (Kd.R_reads' HO337.out).2.1)
  rintro e w47 ⟨v339, v342, rfl, ho0, ho1, hb⟩
  refine ⟨_, rfl, ?_⟩
  have HO340 := Aside0.mk (Kd.R_lower (Kd.R_new' (Kd.R_new' ho0 (Kd.R_lt (zr_ HO324.out))) (Kd.R_lt (zr_ HO334.out))) (below_size (zw2_ HB GE328 GE345)))
  replace HO324 := ze_ HO324 ho0 hb
  replace HO334 := ze_ HO334 ho0 hb
  have HO343 := Aside0.mk (Kd.R_lower (Kd.R_new' (Kd.R_new' ho1 (Kd.R_lt (zr_ HO327.out))) (Kd.R_lt (zr_ HO337.out))) (below_size (zw2_ HB GE328 GE345)))
  replace HO327 := ze_ HO327 ho1 hb
  replace HO337 := ze_ HO337 ho1 hb
  replace BK328 := za_ BK328 hb
  replace BK345 := za_ BK345 hb
  replace HB := Aside0.mk (below_step (zw2_ HB GE328 GE345) hb)
  (try clear hb)
  (try clear hb2)
  (try clear hk)
  (try clear hi)
  (try clear ho0)
  (try clear ho1)
  refine hK.out _ _ ⟨zx_ BK328 0, zx_ BK328 1⟩ (fun hHeld => ?_)
  clear hK K
  refine zq_ (some 29) (h := ?_)
  refine yp_ ?_ 4 25
  refine yp_ ?_ 5 30
  refine yp_ ?_ 6 31
  exact zj_ (hCont (.slice Ao43 y329.length co43, .slice Ao45 t332.length co45, .slice Ao46 t335.length co46, v339, v342, gb345) _ ⟨hHeld, (zr_ HO324.out), (zr_ HO327.out), (zr_ HO334.out), (zr_ HO337.out), (zr_ (Kd.R_mono HO340.out (fun _ hk => ⟨hk.1.2, hk.2⟩))), (zr_ (Kd.R_mono HO343.out (fun _ hk => ⟨hk.1.2, hk.2⟩))), (zb_ BK328), (zb_ BK345), GW345.out, GE345.out, NB328_345.out, NB345_328.out, (zw2_ HB GE328 GE345)⟩)
 rintro ⟨v330, v333, v336, v339, v342, gb345⟩ w48 ⟨hS_, h0_, h1_, h2_, h3_, h4_, h5_, h6_, h7_, h8_, h9_, h10_, h11_, h12_⟩
 (try dsimp only at h0_ h1_ h2_ h3_ h4_ h5_ h6_ h7_ h8_ h9_ h10_ h11_ h12_)
 clear HO324 HO327 BK328 HB
 have HO324 := Aside0.mk h0_
 have HO327 := Aside0.mk h1_
 have HO334 := Aside0.mk h2_
 have HO337 := Aside0.mk h3_
 have HO340 := Aside0.mk h4_
 have HO343 := Aside0.mk h5_
 have BK328 := Aside0.mk h6_
 have BK345 := Aside0.mk h7_
 have GW345 := Aside0.mk h8_
 have GE345 := Aside0.mk h9_
 have NB328_345 := Aside0.mk h10_
 have NB345_328 := Aside0.mk h11_
 have HB := Aside0.mk h12_
 clear h0_ h1_ h2_ h3_ h4_ h5_ h6_ h7_ h8_ h9_ h10_ h11_ h12_
 have hHeld : w48.cell? ⟨gb328, 0, none⟩ = some (.slice Ao35 y322.length co35) ∧ w48.cell? ⟨gb328, 1, none⟩ = some (.slice Ao34 y325.length co34) := hS_
 obtain ⟨Ao49, co49, eo49⟩ := Kd.R_slice HO340.out
 (first | subst eo49 | (injection eo49 with f1_ f2_ f3_; have f4_ := f1_.symm; have f5_ := f3_.symm; clear f1_ f2_ f3_; subst f4_; subst f5_))
 obtain ⟨Ao51, co51, eo51⟩ := Kd.R_slice HO343.out
 (first | subst eo51 | (injection eo51 with f1_ f2_ f3_; have f4_ := f1_.symm; have f5_ := f3_.symm; clear f1_ f2_ f3_; subst f4_; subst f5_))
 refine zi_ (h := ?_)
 refine yo_ 8 none (fun K hK => ?_)
 have hs50 := zx_ (v := .slice none 0 0) BK345 0
 have hfs50 := blk_frozen BK345.out 0
 have hns50_0 := NB328_345.out
 have hms50_0 := NB345_328.out
 have hs52 := zx_ (v := .slice none 0 0) BK345 1
 have hfs52 := blk_frozen BK345.out 1
 have hns52_0 := NB328_345.out
 have hms52_0 := NB345_328.out
 refine skip_ (w1 := ?_) (by rfl) rfl ?_ ?_
 rotate_left
 ·go_simp
  rfl
 refine hK.out _ _ ⟨((cell_far (p := ⟨gb345, _, none⟩) NB328_345.out _).trans (((cell_far (p := ⟨gb345, _, none⟩) NB328_345.out _).trans (hHeld.1)))), ((cell_far (p := ⟨gb345, _, none⟩) NB328_345.out _).trans (((cell_far (p := ⟨gb345, _, none⟩) NB328_345.out _).trans (hHeld.2))))⟩ (fun hHeld => ?_)
 clear hK K
 refine yp_ ?_ 9 3
 refine done_ (done_of HT_.out (by kernel_rfl)) ?_
 have hnb53 := NB328_345.out
 have hnc53 := NB345_328.out
 have hcz54_0 := zx_ (v := .slice Ao35 y322.length co35) BK328 0
 have hcz54_1 := zx_ (v := .slice Ao34 y325.length co34) BK328 1
 have hfz54_0 := blk_frozen BK328.out 0
 have hfz54_1 := blk_frozen BK328.out 1
 try go_wp2_with (first | ((with_reducible refine gate_dst (N := 34) rfl ?_); (try (refine gate_guard (by rfl) ?_; dsimp only)); refine Kd.R_lit (Kd.int .i64) _ 3 ?hg (N := 34) ?hd (xs := ([1, 0] : List Int)) (inner := [.int .i64 1, .int .i64 0]) (ok := fun _ => True) (okp := fun _ => True) ?hr ?hp (fun _ hk => hk) trivial (Below.refl _ _) (Nat.le_refl _) (by simp) ?_; (case hd => rfl); (case hg => rfl); (case hr => first | (go_simp; done) | (go_simp; rfl)); (case hp => exact (Reps.one (show Kd.M (Kd.int .i64) _ _ _ 1 [.int .i64 1] from rfl) (Reps.one (show Kd.M (Kd.int .i64) _ _ _ 0 [.int .i64 0] from rfl) (Reps.none _ _)))); intro v347 w55 ho56 hb hg_ hnew_; clear hg_ hnew_; (first | rw [← Ny346.out] at ho56 | (simp only [Int.reduceToNat] at ho56; rw [← Ny346.out] at ho56)); replace HO327 := Aside0.mk (Kd.R_below (zr_ ((zf_ HO327 BK345 (.slice Ao49 t338.length co49) (.slice Ao51 t341.length co51)))) hb); replace HO343 := Aside0.mk (Kd.R_below (zr_ ((zf_ HO343 BK345 (.slice Ao49 t338.length co49) (.slice Ao51 t341.length co51)))) hb); have HO348 := Aside0.mk (Kd.R_lower (Kd.R_new' (Kd.R_new' ho56 (Kd.R_lt (zr_ ((zf_ HO324 BK345 (.slice Ao49 t338.length co49) (.slice Ao51 t341.length co51)))))) (Kd.R_lt (zr_ ((zf_ HO340 BK345 (.slice Ao49 t338.length co49) (.slice Ao51 t341.length co51)))))) (below_size (zw2_ HB GE328 GE345))); replace HO324 := Aside0.mk (Kd.R_elder' (zr_ ((zf_ HO324 BK345 (.slice Ao49 t338.length co49) (.slice Ao51 t341.length co51)))) (Kd.R_base ho56) hb); replace HO340 := Aside0.mk (Kd.R_elder' (zr_ ((zf_ HO340 BK345 (.slice Ao49 t338.length co49) (.slice Ao51 t341.length co51)))) (Kd.R_base ho56) hb); replace BK328 := Aside0.mk (blk_below (g := gb328) (o := .cells #[.slice Ao35 y322.length co35, .slice Ao34 y325.length co34] 27 (0, 0)) (zv1_ BK328 NB328_345) hb); replace BK345 := Aside0.mk (blk_below (g := gb345) (o := .cells #[.slice Ao49 t338.length co49, .slice Ao51 t341.length co51] 27 (0, 0)) (zo2_ BK345) hb); replace HB := Aside0.mk (below_step (zw2_ HB GE328 GE345) hb); clear hb ho56; obtain ⟨Ao57, co57, eo57⟩ := Kd.R_slice HO348.out; subst eo57) | ((with_reducible refine gate_callee (f := 25) rfl ?_); refine zg_ (some 35) Try.func25 #[.agg #[.slice Ao35 y322.length co35, .slice Ao34 y325.length co34], .slice Ao57 y346.length co57] (h := ?_); (with_reducible refine (tens_Turn.calls k _ _ y322 _ _ y325 _ _ y346 t349 t352 t355 _ ?side1 ?side2 ?side3 ?side4 ?side5 ?side6 A5.out).mono ?_); (case side1 => exact zk_ ((Kd.R_reads' HO324.out).2.2)); (case side2 => exact (Kd.R_reads' HO324.out).2.1); (case side3 => exact zk_ ((Kd.R_reads' HO327.out).2.2)); (case side4 => exact (Kd.R_reads' HO327.out).2.1); (case side5 => exact zk_ ((Kd.R_reads' HO348.out).2.2)); (case side6 => exact (Kd.R_reads' HO348.out).2.1); rintro e w58 ⟨v350, v353, rfl, ho0, ho1, hb⟩; refine ⟨_, rfl, ?_⟩; have HO351 := Aside0.mk (Kd.R_lower (Kd.R_new' (Kd.R_new' (Kd.R_new' ho0 (Kd.R_lt (zr_ HO324.out))) (Kd.R_lt (zr_ HO340.out))) (Kd.R_lt (zr_ HO348.out))) (below_size (zw2_ HB GE328 GE345))); replace HO324 := ze_ HO324 ho0 hb; replace HO340 := ze_ HO340 ho0 hb; replace HO348 := ze_ HO348 ho0 hb; have HO354 := Aside0.mk (Kd.R_lower (Kd.R_new' (Kd.R_new' ho1 (Kd.R_lt (zr_ HO327.out))) (Kd.R_lt (zr_ HO343.out))) (below_size (zw2_ HB GE328 GE345))); replace HO327 := ze_ HO327 ho1 hb; replace HO343 := ze_ HO343 ho1 hb; replace BK328 := za_ BK328 hb; replace BK345 := za_ BK345 hb; replace HB := Aside0.mk (below_step (zw2_ HB GE328 GE345) hb); (try clear hb); (try clear ho0); (try clear ho1)) | ((with_reducible refine gate_dst (N := 4) rfl ?_); (try (refine gate_guard (by rfl) ?_; dsimp only)); refine box_event ?hg (N := 4) ?hd (cs := #[.slice none 0 0, .slice none 0 0]) (t := 27) ?hr ?_; (case hd => rfl); (case hg => rfl); (case hr => first | (go_simp; done) | (go_simp; rfl)); intro gb356 hg w59 hbox hb; replace HO324 := zy_ HO324 hb; replace HO327 := zy_ HO327 hb; replace HO340 := zy_ HO340 hb; replace HO343 := zy_ HO343 hb; replace HO351 := zy_ HO351 hb; replace HO354 := zy_ HO354 hb; have BK356 := Aside0.mk (hbox); have GW356 := Aside0.mk (zs_ hg (zw2_ HB GE328 GE345)); have GE356 := Aside0.mk (zs_ hg (zw2_ HB GE328 GE345)); replace HB := Aside0.mk (below_step (zw2_ HB GE328 GE345) hb); have NB328_356 := Aside0.mk (zn_ hg BK328); have NB356_328 := Aside0.mk (zm_ hg BK328); replace BK328 := za_ BK328 hb; have NB345_356 := Aside0.mk (zn_ hg BK345); have NB356_345 := Aside0.mk (zm_ hg BK345); replace BK345 := za_ BK345 hb; clear hb hbox hg; obtain ⟨Ao60, co60, eo60⟩ := Kd.R_slice HO351.out; subst eo60; have hnb61 := NB356_328.out; have hnc61 := NB328_356.out; have hnb62 := NB356_345.out; have hnc62 := NB345_356.out; have hcz63_0 := zx_ (v := .slice none 0 0) BK356 0; have hcz63_1 := zx_ (v := .slice none 0 0) BK356 1; have hfz63_0 := blk_frozen BK356.out 0; have hfz63_1 := blk_frozen BK356.out 1; obtain ⟨Ao64, co64, eo64⟩ := Kd.R_slice HO354.out; subst eo64))
 have n0_ : Aside0 (Kd.R (Kd.int .i64) 3 ((w59.setCell ⟨gb356, 0, none⟩ (.slice Ao60 t349.length co60)).setCell ⟨gb356, 1, none⟩ (.slice Ao64 t352.length co64)) w.heap.size (fun k_ => some k_ ≠ (.slice Ao49 t338.length co49 : Value).ownBlock ∧ some k_ ≠ (.slice Ao60 t349.length co60 : Value).ownBlock) (.slice Ao35 y322.length co35) y322) := ⟨zr_ (Kd.R_mono (Kd.R_far (p := ⟨gb356, 1, none⟩) (Kd.R_far (p := ⟨gb356, 0, none⟩) (Kd.R_types HO324.out BK356.out (by decide)) (fun _ hk => hk.2) (.slice Ao60 t349.length co60)) (fun _ hk => hk.2) (.slice Ao64 t352.length co64)) (fun _ hk => ⟨hk.1.1.1.2, hk.1.2⟩))⟩
 have n1_ : Aside0 (Kd.R (Kd.int .i64) 23 ((w59.setCell ⟨gb356, 0, none⟩ (.slice Ao60 t349.length co60)).setCell ⟨gb356, 1, none⟩ (.slice Ao64 t352.length co64)) w.heap.size (fun k_ => some k_ ≠ (.slice Ao51 t341.length co51 : Value).ownBlock ∧ some k_ ≠ (.slice Ao64 t352.length co64 : Value).ownBlock) (.slice Ao34 y325.length co34) y325) := ⟨zr_ (Kd.R_mono (Kd.R_far (p := ⟨gb356, 1, none⟩) (Kd.R_far (p := ⟨gb356, 0, none⟩) (Kd.R_types HO327.out BK356.out (by decide)) (fun _ hk => hk.2) (.slice Ao60 t349.length co60)) (fun _ hk => hk.2) (.slice Ao64 t352.length co64)) (fun _ hk => ⟨hk.1.1.2, hk.1.2⟩))⟩
 have n2_ : Aside0 (Kd.R (Kd.int .i64) 3 ((w59.setCell ⟨gb356, 0, none⟩ (.slice Ao60 t349.length co60)).setCell ⟨gb356, 1, none⟩ (.slice Ao64 t352.length co64)) w.heap.size (fun k_ => some k_ ≠ (.slice Ao35 y322.length co35 : Value).ownBlock ∧ some k_ ≠ (.slice Ao60 t349.length co60 : Value).ownBlock) (.slice Ao49 t338.length co49) t338) := ⟨zr_ (Kd.R_mono (Kd.R_far (p := ⟨gb356, 1, none⟩) (Kd.R_far (p := ⟨gb356, 0, none⟩) (Kd.R_types HO340.out BK356.out (by decide)) (fun _ hk => hk.2) (.slice Ao60 t349.length co60)) (fun _ hk => hk.2) (.slice Ao64 t352.length co64)) (fun _ hk => ⟨hk.1.1.1.1, hk.1.2⟩))⟩
 have n3_ : Aside0 (Kd.R (Kd.int .i64) 23 ((w59.setCell ⟨gb356, 0, none⟩ (.slice Ao60 t349.length co60)).setCell ⟨gb356, 1, none⟩ (.slice Ao64 t352.length co64)) w.heap.size (fun k_ => some k_ ≠ (.slice Ao34 y325.length co34 : Value).ownBlock ∧ some k_ ≠ (.slice Ao64 t352.length co64 : Value).ownBlock) (.slice Ao51 t341.length co51) t341) := ⟨zr_ (Kd.R_mono (Kd.R_far (p := ⟨gb356, 1, none⟩) (Kd.R_far (p := ⟨gb356, 0, none⟩) (Kd.R_types HO343.out BK356.out (by decide)) (fun _ hk => hk.2) (.slice Ao60 t349.length co60)) (fun _ hk => hk.2) (.slice Ao64 t352.length co64)) (fun _ hk => ⟨hk.1.1.1, hk.1.2⟩))⟩
 have n4_ : Aside0 (Kd.R (Kd.int .i64) 3 ((w59.setCell ⟨gb356, 0, none⟩ (.slice Ao60 t349.length co60)).setCell ⟨gb356, 1, none⟩ (.slice Ao64 t352.length co64)) w.heap.size (fun k_ => some k_ ≠ (.slice Ao35 y322.length co35 : Value).ownBlock ∧ some k_ ≠ (.slice Ao49 t338.length co49 : Value).ownBlock) (.slice Ao60 t349.length co60) t349) := ⟨zr_ (Kd.R_mono (Kd.R_far (p := ⟨gb356, 1, none⟩) (Kd.R_far (p := ⟨gb356, 0, none⟩) (Kd.R_types HO351.out BK356.out (by decide)) (fun _ hk => hk.2) (.slice Ao60 t349.length co60)) (fun _ hk => hk.2) (.slice Ao64 t352.length co64)) (fun _ hk => ⟨hk.1.1.1.2, hk.1.1.2⟩))⟩
 have n5_ : Aside0 (Kd.R (Kd.int .i64) 23 ((w59.setCell ⟨gb356, 0, none⟩ (.slice Ao60 t349.length co60)).setCell ⟨gb356, 1, none⟩ (.slice Ao64 t352.length co64)) w.heap.size (fun k_ => some k_ ≠ (.slice Ao34 y325.length co34 : Value).ownBlock ∧ some k_ ≠ (.slice Ao51 t341.length co51 : Value).ownBlock) (.slice Ao64 t352.length co64) t352) := ⟨zr_ (Kd.R_mono (Kd.R_far (p := ⟨gb356, 1, none⟩) (Kd.R_far (p := ⟨gb356, 0, none⟩) (Kd.R_types HO354.out BK356.out (by decide)) (fun _ hk => hk.2) (.slice Ao60 t349.length co60)) (fun _ hk => hk.2) (.slice Ao64 t352.length co64)) (fun _ hk => ⟨hk.1.1.2, hk.1.2⟩))⟩
 have n6_ : Aside0 (((w59.setCell ⟨gb356, 0, none⟩ (.slice Ao60 t349.length co60)).setCell ⟨gb356, 1, none⟩ (.slice Ao64 t352.length co64)).heap[gb328]? = some (.cells #[.slice Ao35 y322.length co35, .slice Ao34 y325.length co34] 27 (0, 0))) := ⟨zv1_ BK328 NB328_356⟩
 have n7_ : Aside0 (((w59.setCell ⟨gb356, 0, none⟩ (.slice Ao60 t349.length co60)).setCell ⟨gb356, 1, none⟩ (.slice Ao64 t352.length co64)).heap[gb345]? = some (.cells #[.slice Ao49 t338.length co49, .slice Ao51 t341.length co51] 27 (0, 0))) := ⟨zv1_ BK345 NB345_356⟩
 have n8_ : Aside0 (((w59.setCell ⟨gb356, 0, none⟩ (.slice Ao60 t349.length co60)).setCell ⟨gb356, 1, none⟩ (.slice Ao64 t352.length co64)).heap[gb356]? = some (.cells #[.slice Ao60 t349.length co60, .slice Ao64 t352.length co64] 27 (0, 0))) := ⟨zo2_ BK356⟩
 have n9_ : Aside0 (Below w.heap.size w ((w59.setCell ⟨gb356, 0, none⟩ (.slice Ao60 t349.length co60)).setCell ⟨gb356, 1, none⟩ (.slice Ao64 t352.length co64))) := ⟨zw3_ HB GE328 GE345 GE356⟩
 (try clear HO324)
 (try clear HO327)
 (try clear HO340)
 (try clear HO343)
 (try clear HO351)
 (try clear HO354)
 (try clear BK328)
 (try clear BK345)
 (try clear BK356)
 (try clear HB)
 generalize ((w59.setCell ⟨gb356, 0, none⟩ (.slice Ao60 t349.length co60)).setCell ⟨gb356, 1, none⟩ (.slice Ao64 t352.length co64)) = w65 at n0_ n1_ n2_ n3_ n4_ n5_ n6_ n7_ n8_ n9_ ⊢
 have HO324 := n0_
 have HO327 := n1_
 have HO340 := n2_
 have HO343 := n3_
 have HO351 := n4_
 have HO354 := n5_
 have BK328 := n6_
 have BK345 := n7_
 have BK356 := n8_
 have HB := n9_
 clear n0_ n1_ n2_ n3_ n4_ n5_ n6_ n7_ n8_ n9_
 replace HO324 := Aside0.mk (Kd.R_drew HO324.out)
 replace HO327 := Aside0.mk (Kd.R_drew HO327.out)
 replace HO340 := Aside0.mk (Kd.R_drew HO340.out)
 replace HO343 := Aside0.mk (Kd.R_drew HO343.out)
 replace HO351 := Aside0.mk (Kd.R_drew HO351.out)
 replace HO354 := Aside0.mk (Kd.R_drew HO354.out)
 replace BK328 := Aside0.mk (blk_drew BK328.out)
 replace BK345 := Aside0.mk (blk_drew BK345.out)
 replace BK356 := Aside0.mk (blk_drew BK356.out)
 replace HB := Aside0.mk (below_drew1 HB.out)
 refine start_ (n := 10) (S := fun w' => w'.cell? ⟨gb328, 0, none⟩ = some (.slice Ao35 y322.length co35) ∧ w'.cell? ⟨gb328, 1, none⟩ = some (.slice Ao34 y325.length co34)) (ds := []) #[false, false, false, false, false, false, false, false, false, false] (by kernel_rfl) rfl rfl ⟨(blk_cell BK328.out 0).trans rfl, (blk_cell BK328.out 1).trans rfl⟩ (fun hHeld => ?_); refine with_tabW carousellaw6_TensKnown.tab6 carousellaw6_TensKnown.bits6 (fun HT_ HW_ => ?_)
 generalize w65.drew = w66 at HO324 HO327 HO340 HO343 HO351 HO354 BK328 BK345 BK356 HB hHeld ⊢
 refine yt2_ ?_ 0 39
 refine join_ (σ := Value × Value × Value × Value × Value × Nat) 2 #[true, true, true, true, true, true, true, true, false, false] (fun s_ => [(40, s_.1), (41, .agg #[s_.2.1, s_.2.2.1]), (42, .tuple #[.agg #[s_.2.2.2.1, s_.2.2.2.2.1], .int .i64 t372]), (6, .pointer (some ⟨s_.2.2.2.2.2, 0, none⟩)), (38, .tuple #[.agg #[s_.2.2.2.1, s_.2.2.2.2.1], .int .i64 t372]), (43, .agg #[s_.2.2.2.1, s_.2.2.2.2.1]), (44, .int .i64 t372)]) (fun s_ w' => (w'.cell? ⟨gb328, 0, none⟩ = some (.slice Ao35 y322.length co35) ∧ w'.cell? ⟨gb328, 1, none⟩ = some (.slice Ao34 y325.length co34)) ∧ (Kd.R (Kd.int .i64) 3 w' w.heap.size (fun k_ => some k_ ≠ (.slice Ao49 t338.length co49 : Value).ownBlock ∧ some k_ ≠ (.slice Ao60 t349.length co60 : Value).ownBlock ∧ some k_ ≠ (s_.2.1 : Value).ownBlock ∧ some k_ ≠ (s_.2.2.2.1 : Value).ownBlock) (.slice Ao35 y322.length co35) y322) ∧ (Kd.R (Kd.int .i64) 23 w' w.heap.size (fun k_ => some k_ ≠ (.slice Ao51 t341.length co51 : Value).ownBlock ∧ some k_ ≠ (.slice Ao64 t352.length co64 : Value).ownBlock ∧ some k_ ≠ (s_.2.2.1 : Value).ownBlock ∧ some k_ ≠ (s_.2.2.2.2.1 : Value).ownBlock) (.slice Ao34 y325.length co34) y325) ∧ (Kd.R (Kd.int .i64) 3 w' w.heap.size (fun k_ => some k_ ≠ (.slice Ao35 y322.length co35 : Value).ownBlock ∧ some k_ ≠ (.slice Ao60 t349.length co60 : Value).ownBlock ∧ some k_ ≠ (s_.2.1 : Value).ownBlock ∧ some k_ ≠ (s_.2.2.2.1 : Value).ownBlock) (.slice Ao49 t338.length co49) t338) ∧ (Kd.R (Kd.int .i64) 23 w' w.heap.size (fun k_ => some k_ ≠ (.slice Ao34 y325.length co34 : Value).ownBlock ∧ some k_ ≠ (.slice Ao64 t352.length co64 : Value).ownBlock ∧ some k_ ≠ (s_.2.2.1 : Value).ownBlock ∧ some k_ ≠ (s_.2.2.2.2.1 : Value).ownBlock) (.slice Ao51 t341.length co51) t341) ∧ (Kd.R (Kd.int .i64) 3 w' w.heap.size (fun k_ => some k_ ≠ (.slice Ao35 y322.length co35 : Value).ownBlock ∧ some k_ ≠ (.slice Ao49 t338.length co49 : Value).ownBlock ∧ some k_ ≠ (s_.2.1 : Value).ownBlock ∧ some k_ ≠ (s_.2.2.2.1 : Value).ownBlock) (.slice Ao60 t349.length co60) t349) ∧ (Kd.R (Kd.int .i64) 23 w' w.heap.size (fun k_ => some k_ ≠ (.slice Ao34 y325.length co34 : Value).ownBlock ∧ some k_ ≠ (.slice Ao51 t341.length co51 : Value).ownBlock ∧ some k_ ≠ (s_.2.2.1 : Value).ownBlock ∧ some k_ ≠ (s_.2.2.2.2.1 : Value).ownBlock) (.slice Ao64 t352.length co64) t352) ∧ (Kd.R (Kd.int .i64) 3 w' w.heap.size (fun k_ => some k_ ≠ (.slice Ao35 y322.length co35 : Value).ownBlock ∧ some k_ ≠ (.slice Ao49 t338.length co49 : Value).ownBlock ∧ some k_ ≠ (.slice Ao60 t349.length co60 : Value).ownBlock ∧ some k_ ≠ (s_.2.2.2.1 : Value).ownBlock) s_.2.1 t360) ∧ (Kd.R (Kd.int .i64) 23 w' w.heap.size (fun k_ => some k_ ≠ (.slice Ao34 y325.length co34 : Value).ownBlock ∧ some k_ ≠ (.slice Ao51 t341.length co51 : Value).ownBlock ∧ some k_ ≠ (.slice Ao64 t352.length co64 : Value).ownBlock ∧ some k_ ≠ (s_.2.2.2.2.1 : Value).ownBlock) s_.2.2.1 t363) ∧ (Kd.R (Kd.int .i64) 3 w' w.heap.size (fun k_ => some k_ ≠ (.slice Ao35 y322.length co35 : Value).ownBlock ∧ some k_ ≠ (.slice Ao49 t338.length co49 : Value).ownBlock ∧ some k_ ≠ (.slice Ao60 t349.length co60 : Value).ownBlock ∧ some k_ ≠ (s_.2.1 : Value).ownBlock) s_.2.2.2.1 t366) ∧ (Kd.R (Kd.int .i64) 23 w' w.heap.size (fun k_ => some k_ ≠ (.slice Ao34 y325.length co34 : Value).ownBlock ∧ some k_ ≠ (.slice Ao51 t341.length co51 : Value).ownBlock ∧ some k_ ≠ (.slice Ao64 t352.length co64 : Value).ownBlock ∧ some k_ ≠ (s_.2.2.1 : Value).ownBlock) s_.2.2.2.2.1 t369) ∧ (w'.heap[gb328]? = some (.cells #[.slice Ao35 y322.length co35, .slice Ao34 y325.length co34] 27 (0, 0))) ∧ (w'.heap[gb345]? = some (.cells #[.slice Ao49 t338.length co49, .slice Ao51 t341.length co51] 27 (0, 0))) ∧ (w'.heap[gb356]? = some (.cells #[.slice Ao60 t349.length co60, .slice Ao64 t352.length co64] 27 (0, 0))) ∧ (w'.heap[s_.2.2.2.2.2]? = some (.cells #[.slice none 0 0, .slice none 0 0] 27 (0, 0))) ∧ (w.heap.size ≤ s_.2.2.2.2.2) ∧ (w.heap.size ≤ s_.2.2.2.2.2) ∧ (gb328 ≠ s_.2.2.2.2.2) ∧ (s_.2.2.2.2.2 ≠ gb328) ∧ (gb345 ≠ s_.2.2.2.2.2) ∧ (s_.2.2.2.2.2 ≠ gb345) ∧ (gb356 ≠ s_.2.2.2.2.2) ∧ (s_.2.2.2.2.2 ≠ gb356) ∧ (Below w.heap.size w w')) ?_ ?_
 rotate_left
 ·intro hCont
  refine two_ (i := 1) (j := 7) (Ni := some 40) (Nj := some 6) #[true, true, false, false, false, false, false, false, false, false] #[true, false, false, false, false, false, false, true, false, false] rfl rfl rfl rfl (two_of HT_.out (by kernel_rfl)) (by decide) (by decide) (fun K hK => ?_) (fun K hK => ?_)
  ·skip
   refine Kd.R_lit_step (Kd.int .i64) _ 23 ?hg (N := 40) ?hd (xs := ([1, 2, 3] : List Int)) (inner := [.int .i64 1, .int .i64 2, .int .i64 3]) (ok := fun _ => True) (okp := fun _ => True) ?hr ?hp (fun _ hk => hk) trivial (Below.refl _ _) (Nat.le_refl _) (by simp) ?_; (case hd => rfl); (case hg => rfl); (case hr => first | (go_simp; done) | (go_simp; rfl)); (case hp => exact (Reps.one (show Kd.M (Kd.int .i64) _ _ _ 1 [.int .i64 1] from rfl) (Reps.one (show Kd.M (Kd.int .i64) _ _ _ 2 [.int .i64 2] from rfl) (Reps.one (show Kd.M (Kd.int .i64) _ _ _ 3 [.int .i64 3] from rfl) (Reps.none _ _)))))
   intro v358 w67 ho68 hb hg_ hnew_
   clear hg_ hnew_
   (first | rw [← Ny357.out] at ho68 | (simp only [Int.reduceToNat] at ho68; rw [← Ny357.out] at ho68))
   replace HO324 := zy_ HO324 hb
   replace HO340 := zy_ HO340 hb
   replace HO351 := zy_ HO351 hb
   have HO359 := Aside0.mk (Kd.R_lower (Kd.R_new' (Kd.R_new' (Kd.R_new' ho68 (Kd.R_lt (zr_ HO327.out))) (Kd.R_lt (zr_ HO343.out))) (Kd.R_lt (zr_ HO354.out))) (below_size (zw3_ HB GE328 GE345 GE356)))
   replace HO327 := ze_ HO327 ho68 hb
   replace HO343 := ze_ HO343 ho68 hb
   replace HO354 := ze_ HO354 ho68 hb
   replace BK328 := za_ BK328 hb
   replace BK345 := za_ BK345 hb
   replace BK356 := za_ BK356 hb
   replace HB := Aside0.mk (below_step (zw3_ HB GE328 GE345 GE356) hb)
   clear hb ho68
   obtain ⟨Ao69, co69, eo69⟩ := Kd.R_slice HO359.out
   (first | subst eo69 | (injection eo69 with f1_ f2_ f3_; have f4_ := f1_.symm; have f5_ := f3_.symm; clear f1_ f2_ f3_; subst f4_; subst f5_))
   refine hK.out _ _ ⟨zx_ BK328 0, zx_ BK328 1⟩ (fun hHeld => ?_)
   clear hK K
   refine zq_ (some 40) (h := ?_)
   refine two_ (i := 2) (j := 7) (Ni := some 41) (Nj := some 6) #[true, true, true, false, false, false, false, false, false, false] #[true, true, false, false, false, false, false, true, false, false] rfl rfl rfl rfl (two_of HT_.out (by kernel_rfl)) (by decide) (by decide) (fun K hK => ?_) (fun K hK => ?_)
   ·skip
    refine yg_ Try.func28 #[.slice Ao69 y357.length co69] ?_
    with_reducible refine (carousellaw6_row.calls (fun k_ => some k_ = (.slice Ao69 y357.length co69 : Value).ownBlock) (.slice Ao69 y357.length co69) y357 t360 t363 w _ ?side1 ?side2 A6.out).mono ?_
    (case side1 => repeat (first | (with_reducible first | exact HB.out | apply below_alloc | apply pw_below_drewN | apply below_drew1 | refine below_set ?_ GE328.out | refine below_set ?_ GE345.out | refine below_set ?_ GE356.out) | exact HB.out))
    (case side2 => exact Kd.R_tight rfl HO359.out)
    rintro e w70 ⟨v361, v364, rfl, ho0, ho1, hb, hkp⟩
    refine ⟨_, rfl, ?_⟩
    replace BK328 := Aside0.mk (blk_kept (zb_ BK328) hkp (fun hs_ => (fun e_ => (Kd.R_ne HO359.out BK328.out (by decide)) e_) hs_))
    replace BK345 := Aside0.mk (blk_kept (zb_ BK345) hkp (fun hs_ => (fun e_ => (Kd.R_ne HO359.out BK345.out (by decide)) e_) hs_))
    replace BK356 := Aside0.mk (blk_kept (zb_ BK356) hkp (fun hs_ => (fun e_ => (Kd.R_ne HO359.out BK356.out (by decide)) e_) hs_))
    have HO362 := Aside0.mk (Kd.R_mono (ok' := fun k_ => some k_ ≠ (.slice Ao35 y322.length co35 : Value).ownBlock ∧ some k_ ≠ (.slice Ao49 t338.length co49 : Value).ownBlock ∧ some k_ ≠ (.slice Ao60 t349.length co60 : Value).ownBlock) ho0 (fun k_ hk_ => ⟨Or.elim hk_ (fun hs_ => fun e_ => ((((Kd.R_apart' HO324.out (Kd.R_typed HO359.out) (by decide))).1 k_ e_.symm).2) hs_) (fun hn_ => (Kd.fresh' (Kd.R_lt (zr_ HO324.out)) k_ hn_)), Or.elim hk_ (fun hs_ => fun e_ => ((((Kd.R_apart' HO340.out (Kd.R_typed HO359.out) (by decide))).1 k_ e_.symm).2) hs_) (fun hn_ => (Kd.fresh' (Kd.R_lt (zr_ HO340.out)) k_ hn_)), Or.elim hk_ (fun hs_ => fun e_ => ((((Kd.R_apart' HO351.out (Kd.R_typed HO359.out) (by decide))).1 k_ e_.symm).2) hs_) (fun hn_ => (Kd.fresh' (Kd.R_lt (zr_ HO351.out)) k_ hn_))⟩))
    replace HO324 := Aside0.mk (Kd.R_mono (ok' := fun k_ => some k_ ≠ (.slice Ao49 t338.length co49 : Value).ownBlock ∧ some k_ ≠ (.slice Ao60 t349.length co60 : Value).ownBlock ∧ some k_ ≠ (v361 : Value).ownBlock) (Kd.R_keptB ((Kd.R_apart' HO324.out (Kd.R_typed HO359.out) (by decide))) hkp (fun k_ hk_ hs_ => (hk_.2) hs_)) (fun k_ hk_ => ⟨hk_.1.1.1, hk_.1.1.2, fun e_ => Or.elim (ho0.1 k_ e_.symm) (fun hs_ => hk_.2.1 hs_) (fun hn_ => Nat.not_le.2 hk_.2.2 hn_)⟩))
    replace HO340 := Aside0.mk (Kd.R_mono (ok' := fun k_ => some k_ ≠ (.slice Ao35 y322.length co35 : Value).ownBlock ∧ some k_ ≠ (.slice Ao60 t349.length co60 : Value).ownBlock ∧ some k_ ≠ (v361 : Value).ownBlock) (Kd.R_keptB ((Kd.R_apart' HO340.out (Kd.R_typed HO359.out) (by decide))) hkp (fun k_ hk_ hs_ => (hk_.2) hs_)) (fun k_ hk_ => ⟨hk_.1.1.1, hk_.1.1.2, fun e_ => Or.elim (ho0.1 k_ e_.symm) (fun hs_ => hk_.2.1 hs_) (fun hn_ => Nat.not_le.2 hk_.2.2 hn_)⟩))
    replace HO351 := Aside0.mk (Kd.R_mono (ok' := fun k_ => some k_ ≠ (.slice Ao35 y322.length co35 : Value).ownBlock ∧ some k_ ≠ (.slice Ao49 t338.length co49 : Value).ownBlock ∧ some k_ ≠ (v361 : Value).ownBlock) (Kd.R_keptB ((Kd.R_apart' HO351.out (Kd.R_typed HO359.out) (by decide))) hkp (fun k_ hk_ hs_ => (hk_.2) hs_)) (fun k_ hk_ => ⟨hk_.1.1.1, hk_.1.1.2, fun e_ => Or.elim (ho0.1 k_ e_.symm) (fun hs_ => hk_.2.1 hs_) (fun hn_ => Nat.not_le.2 hk_.2.2 hn_)⟩))
    have HO365 := Aside0.mk (Kd.R_mono (ok' := fun k_ => some k_ ≠ (.slice Ao34 y325.length co34 : Value).ownBlock ∧ some k_ ≠ (.slice Ao51 t341.length co51 : Value).ownBlock ∧ some k_ ≠ (.slice Ao64 t352.length co64 : Value).ownBlock) ho1 (fun k_ hk_ => ⟨Or.elim hk_ (fun hs_ => fun e_ => (((HO327.out).1 k_ e_.symm).2) hs_) (fun hn_ => (Kd.fresh' (Kd.R_lt (zr_ HO327.out)) k_ hn_)), Or.elim hk_ (fun hs_ => fun e_ => (((HO343.out).1 k_ e_.symm).2) hs_) (fun hn_ => (Kd.fresh' (Kd.R_lt (zr_ HO343.out)) k_ hn_)), Or.elim hk_ (fun hs_ => fun e_ => (((HO354.out).1 k_ e_.symm).2) hs_) (fun hn_ => (Kd.fresh' (Kd.R_lt (zr_ HO354.out)) k_ hn_))⟩))
    replace HO327 := Aside0.mk (Kd.R_mono (ok' := fun k_ => some k_ ≠ (.slice Ao51 t341.length co51 : Value).ownBlock ∧ some k_ ≠ (.slice Ao64 t352.length co64 : Value).ownBlock ∧ some k_ ≠ (v364 : Value).ownBlock) (Kd.R_keptB (HO327.out) hkp (fun k_ hk_ hs_ => (hk_.2) hs_)) (fun k_ hk_ => ⟨hk_.1.1.1, hk_.1.1.2, fun e_ => Or.elim (ho1.1 k_ e_.symm) (fun hs_ => hk_.2.1 hs_) (fun hn_ => Nat.not_le.2 hk_.2.2 hn_)⟩))
    replace HO343 := Aside0.mk (Kd.R_mono (ok' := fun k_ => some k_ ≠ (.slice Ao34 y325.length co34 : Value).ownBlock ∧ some k_ ≠ (.slice Ao64 t352.length co64 : Value).ownBlock ∧ some k_ ≠ (v364 : Value).ownBlock) (Kd.R_keptB (HO343.out) hkp (fun k_ hk_ hs_ => (hk_.2) hs_)) (fun k_ hk_ => ⟨hk_.1.1.1, hk_.1.1.2, fun e_ => Or.elim (ho1.1 k_ e_.symm) (fun hs_ => hk_.2.1 hs_) (fun hn_ => Nat.not_le.2 hk_.2.2 hn_)⟩))
    replace HO354 := Aside0.mk (Kd.R_mono (ok' := fun k_ => some k_ ≠ (.slice Ao34 y325.length co34 : Value).ownBlock ∧ some k_ ≠ (.slice Ao51 t341.length co51 : Value).ownBlock ∧ some k_ ≠ (v364 : Value).ownBlock) (Kd.R_keptB (HO354.out) hkp (fun k_ hk_ hs_ => (hk_.2) hs_)) (fun k_ hk_ => ⟨hk_.1.1.1, hk_.1.1.2, fun e_ => Or.elim (ho1.1 k_ e_.symm) (fun hs_ => hk_.2.1 hs_) (fun hn_ => Nat.not_le.2 hk_.2.2 hn_)⟩))
    replace HB := Aside0.mk (hb)
    clear HO359
    (try clear hb)
    (try clear hkp)
    (try clear ho0)
    (try clear ho1)
    obtain ⟨Ao71, co71, eo71⟩ := Kd.R_slice HO362.out
    (first | subst eo71 | (injection eo71 with f1_ f2_ f3_; have f4_ := f1_.symm; have f5_ := f3_.symm; clear f1_ f2_ f3_; subst f4_; subst f5_))
    obtain ⟨Ao72, co72, eo72⟩ := Kd.R_slice HO365.out
    (first | subst eo72 | (injection eo72 with f1_ f2_ f3_; have f4_ := f1_.symm; have f5_ := f3_.symm; clear f1_ f2_ f3_; subst f4_; subst f5_))
    refine hK.out _ _ ⟨zx_ BK328 0, zx_ BK328 1⟩ (fun hHeld => ?_)
    clear hK K
    refine zq_ (some 41) (h := ?_)
    refine two_ (i := 3) (j := 7) (Ni := some 42) (Nj := some 6) #[true, true, true, true, false, false, false, false, false, false] #[true, true, true, false, false, false, false, true, false, false] rfl rfl rfl rfl (two_of HT_.out (by kernel_rfl)) (by decide) (by decide) (fun K hK => ?_) (fun K hK => ?_)
    ·skip
     refine yg_ Try.func19 #[.agg #[.slice Ao35 y322.length co35, .slice Ao34 y325.length co34], .agg #[.slice Ao71 t360.length co71, .slice Ao72 t363.length co72]] ?_
     with_reducible refine (tens_Add.calls k _ _ y322 _ _ y325 _ _ t360 _ _ t363 t366 t369 t372 _ ?side1 ?side2 ?side3 ?side4 ?side5 ?side6 ?side7 ?side8 A7.out).mono ?_
     (case side1 => exact zk_ ((Kd.R_reads' HO324.out).2.2))
     (case side2 => exact (Kd.R_reads' HO324.out).2.1)
     (case side3 => exact zk_ ((Kd.R_reads' HO327.out).2.2))
     (case side4 => exact (Kd.R_reads' HO327.out).2.1)
     (case side5 => exact zk_ ((Kd.R_reads' HO362.out).2.2))
     (case side6 => exact (Kd.R_reads' HO362.out).2.1)
     (case side7 => exact zk_ ((Kd.R_reads' HO365.out).2.2))
     (case side8 => exact (Kd.R_reads' HO365.out).2.1)
     rintro e w73 ⟨v367, v370, rfl, ho0, ho1, hb⟩
     refine ⟨_, rfl, ?_⟩
     have HO368 := Aside0.mk (Kd.R_lower (Kd.R_new' (Kd.R_new' (Kd.R_new' (Kd.R_new' ho0 (Kd.R_lt (zr_ HO324.out))) (Kd.R_lt (zr_ HO340.out))) (Kd.R_lt (zr_ HO351.out))) (Kd.R_lt (zr_ HO362.out))) (below_size (zw3_ HB GE328 GE345 GE356)))
     replace HO324 := ze_ HO324 ho0 hb
     replace HO340 := ze_ HO340 ho0 hb
     replace HO351 := ze_ HO351 ho0 hb
     replace HO362 := ze_ HO362 ho0 hb
     have HO371 := Aside0.mk (Kd.R_lower (Kd.R_new' (Kd.R_new' (Kd.R_new' (Kd.R_new' ho1 (Kd.R_lt (zr_ HO327.out))) (Kd.R_lt (zr_ HO343.out))) (Kd.R_lt (zr_ HO354.out))) (Kd.R_lt (zr_ HO365.out))) (below_size (zw3_ HB GE328 GE345 GE356)))
     replace HO327 := ze_ HO327 ho1 hb
     replace HO343 := ze_ HO343 ho1 hb
     replace HO354 := ze_ HO354 ho1 hb
     replace HO365 := ze_ HO365 ho1 hb
     replace BK328 := za_ BK328 hb
     replace BK345 := za_ BK345 hb
     replace BK356 := za_ BK356 hb
     replace HB := Aside0.mk (below_step (zw3_ HB GE328 GE345 GE356) hb)
     (try clear hb)
     (try clear hb2)
     (try clear hk)
     (try clear hi)
     (try clear ho0)
     (try clear ho1)
     refine hK.out _ _ ⟨zx_ BK328 0, zx_ BK328 1⟩ (fun hHeld => ?_)
     clear hK K
     refine zq_ (some 42) (h := ?_)
     refine yp_ ?_ 4 38
     refine yp_ ?_ 5 43
     refine yp_ ?_ 6 44
     refine yo_ 7 (some 6) (fun K hK => ?_)
     refine box_step ?hg (N := 6) ?hd (cs := #[.slice none 0 0, .slice none 0 0]) (t := 27) ?hr ?_; (case hd => rfl); (case hg => rfl); (case hr => first | (go_simp; done) | (go_simp; rfl))
     intro gb373 hg w74 hbox hb
     replace HO324 := zy_ HO324 hb
     replace HO327 := zy_ HO327 hb
     replace HO340 := zy_ HO340 hb
     replace HO343 := zy_ HO343 hb
     replace HO351 := zy_ HO351 hb
     replace HO354 := zy_ HO354 hb
     replace HO362 := zy_ HO362 hb
     replace HO365 := zy_ HO365 hb
     replace HO368 := zy_ HO368 hb
     replace HO371 := zy_ HO371 hb
     have BK373 := Aside0.mk (hbox)
     have GW373 := Aside0.mk (zs_ hg (zw3_ HB GE328 GE345 GE356))
     have GE373 := Aside0.mk (zs_ hg (zw3_ HB GE328 GE345 GE356))
     replace HB := Aside0.mk (below_step (zw3_ HB GE328 GE345 GE356) hb)
     have NB328_373 := Aside0.mk (zn_ hg BK328)
     have NB373_328 := Aside0.mk (zm_ hg BK328)
     replace BK328 := za_ BK328 hb
     have NB345_373 := Aside0.mk (zn_ hg BK345)
     have NB373_345 := Aside0.mk (zm_ hg BK345)
     replace BK345 := za_ BK345 hb
     have NB356_373 := Aside0.mk (zn_ hg BK356)
     have NB373_356 := Aside0.mk (zm_ hg BK356)
     replace BK356 := za_ BK356 hb
     clear hb hbox hg
     refine hK.out _ _ ⟨zx_ BK328 0, zx_ BK328 1⟩ (fun hHeld => ?_)
     clear hK K
     refine zq_ (some 6) (h := ?_)
     exact zj_ (hCont (.slice Ao69 y357.length co69, .slice Ao71 t360.length co71, .slice Ao72 t363.length co72, v367, v370, gb373) _ ⟨hHeld, (zr_ (Kd.R_mono HO324.out (fun _ hk => ⟨hk.1.1, ⟨hk.1.2.1, ⟨hk.1.2.2, hk.2⟩⟩⟩))), (zr_ (Kd.R_mono HO327.out (fun _ hk => ⟨hk.1.1, ⟨hk.1.2.1, ⟨hk.1.2.2, hk.2⟩⟩⟩))), (zr_ (Kd.R_mono HO340.out (fun _ hk => ⟨hk.1.1, ⟨hk.1.2.1, ⟨hk.1.2.2, hk.2⟩⟩⟩))), (zr_ (Kd.R_mono HO343.out (fun _ hk => ⟨hk.1.1, ⟨hk.1.2.1, ⟨hk.1.2.2, hk.2⟩⟩⟩))), (zr_ (Kd.R_mono HO351.out (fun _ hk => ⟨hk.1.1, ⟨hk.1.2.1, ⟨hk.1.2.2, hk.2⟩⟩⟩))), (zr_ (Kd.R_mono HO354.out (fun _ hk => ⟨hk.1.1, ⟨hk.1.2.1, ⟨hk.1.2.2, hk.2⟩⟩⟩))), (zr_ (Kd.R_mono HO362.out (fun _ hk => ⟨hk.1.1, ⟨hk.1.2.1, ⟨hk.1.2.2, hk.2⟩⟩⟩))), (zr_ (Kd.R_mono HO365.out (fun _ hk => ⟨hk.1.1, ⟨hk.1.2.1, ⟨hk.1.2.2, hk.2⟩⟩⟩))), (zr_ (Kd.R_mono HO368.out (fun _ hk => ⟨hk.1.1.1.2, ⟨hk.1.1.2, ⟨hk.1.2, hk.2⟩⟩⟩))), (zr_ (Kd.R_mono HO371.out (fun _ hk => ⟨hk.1.1.1.2, ⟨hk.1.1.2, ⟨hk.1.2, hk.2⟩⟩⟩))), (zb_ BK328), (zb_ BK345), (zb_ BK356), (zb_ BK373), GW373.out, GE373.out, NB328_373.out, NB373_328.out, NB345_373.out, NB373_345.out, NB356_373.out, NB373_356.out, (zw4_ HB GE328 GE345 GE356 GE373)⟩)
    skip
    refine box_step ?hg (N := 6) ?hd (cs := #[.slice none 0 0, .slice none 0 0]) (t := 27) ?hr ?_; (case hd => rfl); (case hg => rfl); (case hr => first | (go_simp; done) | (go_simp; rfl))
    intro gb373 hg w71 hbox hb
    replace HO324 := zy_ HO324 hb
    replace HO327 := zy_ HO327 hb
    replace HO340 := zy_ HO340 hb
    replace HO343 := zy_ HO343 hb
    replace HO351 := zy_ HO351 hb
    replace HO354 := zy_ HO354 hb
    replace HO362 := zy_ HO362 hb
    replace HO365 := zy_ HO365 hb
    have BK373 := Aside0.mk (hbox)
    have GW373 := Aside0.mk (zs_ hg (zw3_ HB GE328 GE345 GE356))
    have GE373 := Aside0.mk (zs_ hg (zw3_ HB GE328 GE345 GE356))
    replace HB := Aside0.mk (below_step (zw3_ HB GE328 GE345 GE356) hb)
    have NB328_373 := Aside0.mk (zn_ hg BK328)
    have NB373_328 := Aside0.mk (zm_ hg BK328)
    replace BK328 := za_ BK328 hb
    have NB345_373 := Aside0.mk (zn_ hg BK345)
    have NB373_345 := Aside0.mk (zm_ hg BK345)
    replace BK345 := za_ BK345 hb
    have NB356_373 := Aside0.mk (zn_ hg BK356)
    have NB373_356 := Aside0.mk (zm_ hg BK356)
    replace BK356 := za_ BK356 hb
    clear hb hbox hg
    obtain ⟨Ao72, co72, eo72⟩ := Kd.R_slice HO362.out
    (first | subst eo72 | (injection eo72 with f1_ f2_ f3_; have f4_ := f1_.symm; have f5_ := f3_.symm; clear f1_ f2_ f3_; subst f4_; subst f5_))
    obtain ⟨Ao73, co73, eo73⟩ := Kd.R_slice HO365.out
    (first | subst eo73 | (injection eo73 with f1_ f2_ f3_; have f4_ := f1_.symm; have f5_ := f3_.symm; clear f1_ f2_ f3_; subst f4_; subst f5_))
    refine hK.out _ _ ⟨zx_ BK328 0, zx_ BK328 1⟩ (fun hHeld => ?_)
    clear hK K
    refine zq_ (some 6) (h := ?_)
    refine yo_ 3 (some 42) (fun K hK => ?_)
    refine yg_ Try.func19 #[.agg #[.slice Ao35 y322.length co35, .slice Ao34 y325.length co34], .agg #[.slice Ao72 t360.length co72, .slice Ao73 t363.length co73]] ?_
    with_reducible refine (tens_Add.calls k _ _ y322 _ _ y325 _ _ t360 _ _ t363 t366 t369 t372 _ ?side1 ?side2 ?side3 ?side4 ?side5 ?side6 ?side7 ?side8 A7.out).mono ?_
    (case side1 => exact zk_ ((Kd.R_reads' HO324.out).2.2))
    (case side2 => exact (Kd.R_reads' HO324.out).2.1)
    (case side3 => exact zk_ ((Kd.R_reads' HO327.out).2.2))
    (case side4 => exact (Kd.R_reads' HO327.out).2.1)
    (case side5 => exact zk_ ((Kd.R_reads' HO362.out).2.2))
    (case side6 => exact (Kd.R_reads' HO362.out).2.1)
    (case side7 => exact zk_ ((Kd.R_reads' HO365.out).2.2))
    (case side8 => exact (Kd.R_reads' HO365.out).2.1)
    rintro e w74 ⟨v367, v370, rfl, ho0, ho1, hb⟩
    refine ⟨_, rfl, ?_⟩
    have HO368 := Aside0.mk (Kd.R_lower (Kd.R_new' (Kd.R_new' (Kd.R_new' (Kd.R_new' ho0 (Kd.R_lt (zr_ HO324.out))) (Kd.R_lt (zr_ HO340.out))) (Kd.R_lt (zr_ HO351.out))) (Kd.R_lt (zr_ HO362.out))) (below_size (zw4_ HB GE328 GE345 GE356 GE373)))
    replace HO324 := ze_ HO324 ho0 hb
    replace HO340 := ze_ HO340 ho0 hb
    replace HO351 := ze_ HO351 ho0 hb
    replace HO362 := ze_ HO362 ho0 hb
    have HO371 := Aside0.mk (Kd.R_lower (Kd.R_new' (Kd.R_new' (Kd.R_new' (Kd.R_new' ho1 (Kd.R_lt (zr_ HO327.out))) (Kd.R_lt (zr_ HO343.out))) (Kd.R_lt (zr_ HO354.out))) (Kd.R_lt (zr_ HO365.out))) (below_size (zw4_ HB GE328 GE345 GE356 GE373)))
    replace HO327 := ze_ HO327 ho1 hb
    replace HO343 := ze_ HO343 ho1 hb
    replace HO354 := ze_ HO354 ho1 hb
    replace HO365 := ze_ HO365 ho1 hb
    replace BK328 := za_ BK328 hb
    replace BK345 := za_ BK345 hb
    replace BK356 := za_ BK356 hb
    replace BK373 := za_ BK373 hb
    replace HB := Aside0.mk (below_step (zw4_ HB GE328 GE345 GE356 GE373) hb)
    (try clear hb)
    (try clear hb2)
    (try clear hk)
    (try clear hi)
    (try clear ho0)
    (try clear ho1)
    refine hK.out _ _ ⟨zx_ BK328 0, zx_ BK328 1⟩ (fun hHeld => ?_)
    clear hK K
    refine zq_ (some 42) (h := ?_)
    refine yp_ ?_ 4 38
    refine yp_ ?_ 5 43
    refine yp_ ?_ 6 44
    exact zj_ (hCont (.slice Ao69 y357.length co69, .slice Ao72 t360.length co72, .slice Ao73 t363.length co73, v367, v370, gb373) _ ⟨hHeld, (zr_ (Kd.R_mono HO324.out (fun _ hk => ⟨hk.1.1, ⟨hk.1.2.1, ⟨hk.1.2.2, hk.2⟩⟩⟩))), (zr_ (Kd.R_mono HO327.out (fun _ hk => ⟨hk.1.1, ⟨hk.1.2.1, ⟨hk.1.2.2, hk.2⟩⟩⟩))), (zr_ (Kd.R_mono HO340.out (fun _ hk => ⟨hk.1.1, ⟨hk.1.2.1, ⟨hk.1.2.2, hk.2⟩⟩⟩))), (zr_ (Kd.R_mono HO343.out (fun _ hk => ⟨hk.1.1, ⟨hk.1.2.1, ⟨hk.1.2.2, hk.2⟩⟩⟩))), (zr_ (Kd.R_mono HO351.out (fun _ hk => ⟨hk.1.1, ⟨hk.1.2.1, ⟨hk.1.2.2, hk.2⟩⟩⟩))), (zr_ (Kd.R_mono HO354.out (fun _ hk => ⟨hk.1.1, ⟨hk.1.2.1, ⟨hk.1.2.2, hk.2⟩⟩⟩))), (zr_ (Kd.R_mono HO362.out (fun _ hk => ⟨hk.1.1, ⟨hk.1.2.1, ⟨hk.1.2.2, hk.2⟩⟩⟩))), (zr_ (Kd.R_mono HO365.out (fun _ hk => ⟨hk.1.1, ⟨hk.1.2.1, ⟨hk.1.2.2, hk.2⟩⟩⟩))), (zr_ (Kd.R_mono HO368.out (fun _ hk => ⟨hk.1.1.1.2, ⟨hk.1.1.2, ⟨hk.1.2, hk.2⟩⟩⟩))), (zr_ (Kd.R_mono HO371.out (fun _ hk => ⟨hk.1.1.1.2, ⟨hk.1.1.2, ⟨hk.1.2, hk.2⟩⟩⟩))), (zb_ BK328), (zb_ BK345), (zb_ BK356), (zb_ BK373), GW373.out, GE373.out, NB328_373.out, NB373_328.out, NB345_373.out, NB373_345.out, NB356_373.out, NB373_356.out, (zw4_ HB GE328 GE345 GE356 GE373)⟩)
   skip
   refine box_step ?hg (N := 6) ?hd (cs := #[.slice none 0 0, .slice none 0 0]) (t := 27) ?hr ?_; (case hd => rfl); (case hg => rfl); (case hr => first | (go_simp; done) | (go_simp; rfl))
   intro gb373 hg w69 hbox hb
   replace HO324 := zy_ HO324 hb
   replace HO327 := zy_ HO327 hb
   replace HO340 := zy_ HO340 hb
   replace HO343 := zy_ HO343 hb
   replace HO351 := zy_ HO351 hb
   replace HO354 := zy_ HO354 hb
   replace HO359 := zy_ HO359 hb
   have BK373 := Aside0.mk (hbox)
   have GW373 := Aside0.mk (zs_ hg (zw3_ HB GE328 GE345 GE356))
   have GE373 := Aside0.mk (zs_ hg (zw3_ HB GE328 GE345 GE356))
   replace HB := Aside0.mk (below_step (zw3_ HB GE328 GE345 GE356) hb)
   have NB328_373 := Aside0.mk (zn_ hg BK328)
   have NB373_328 := Aside0.mk (zm_ hg BK328)
   replace BK328 := za_ BK328 hb
   have NB345_373 := Aside0.mk (zn_ hg BK345)
   have NB373_345 := Aside0.mk (zm_ hg BK345)
   replace BK345 := za_ BK345 hb
   have NB356_373 := Aside0.mk (zn_ hg BK356)
   have NB373_356 := Aside0.mk (zm_ hg BK356)
   replace BK356 := za_ BK356 hb
   clear hb hbox hg
   obtain ⟨Ao70, co70, eo70⟩ := Kd.R_slice HO359.out
   (first | subst eo70 | (injection eo70 with f1_ f2_ f3_; have f4_ := f1_.symm; have f5_ := f3_.symm; clear f1_ f2_ f3_; subst f4_; subst f5_))
   refine hK.out _ _ ⟨zx_ BK328 0, zx_ BK328 1⟩ (fun hHeld => ?_)
   clear hK K
   refine zq_ (some 6) (h := ?_)
   refine yo_ 2 (some 41) (fun K hK => ?_)
   refine yg_ Try.func28 #[.slice Ao70 y357.length co70] ?_
   with_reducible refine (carousellaw6_row.calls (fun k_ => some k_ = (.slice Ao70 y357.length co70 : Value).ownBlock) (.slice Ao70 y357.length co70) y357 t360 t363 w _ ?side1 ?side2 A6.out).mono ?_
   (case side1 => repeat (first | (with_reducible first | exact HB.out | apply below_alloc | apply pw_below_drewN | apply below_drew1 | refine below_set ?_ GE328.out | refine below_set ?_ GE345.out | refine below_set ?_ GE356.out | refine below_set ?_ GE373.out) | exact HB.out))
   (case side2 => exact Kd.R_tight rfl HO359.out)
   rintro e w71 ⟨v361, v364, rfl, ho0, ho1, hb, hkp⟩
   refine ⟨_, rfl, ?_⟩
   replace BK328 := Aside0.mk (blk_kept (zb_ BK328) hkp (fun hs_ => (fun e_ => (Kd.R_ne HO359.out BK328.out (by decide)) e_) hs_))
   replace BK345 := Aside0.mk (blk_kept (zb_ BK345) hkp (fun hs_ => (fun e_ => (Kd.R_ne HO359.out BK345.out (by decide)) e_) hs_))
   replace BK356 := Aside0.mk (blk_kept (zb_ BK356) hkp (fun hs_ => (fun e_ => (Kd.R_ne HO359.out BK356.out (by decide)) e_) hs_))
   replace BK373 := Aside0.mk (blk_kept (zb_ BK373) hkp (fun hs_ => (fun e_ => (Kd.R_ne HO359.out BK373.out (by decide)) e_) hs_))
   have HO362 := Aside0.mk (Kd.R_mono (ok' := fun k_ => some k_ ≠ (.slice Ao35 y322.length co35 : Value).ownBlock ∧ some k_ ≠ (.slice Ao49 t338.length co49 : Value).ownBlock ∧ some k_ ≠ (.slice Ao60 t349.length co60 : Value).ownBlock) ho0 (fun k_ hk_ => ⟨Or.elim hk_ (fun hs_ => fun e_ => ((((Kd.R_apart' HO324.out (Kd.R_typed HO359.out) (by decide))).1 k_ e_.symm).2) hs_) (fun hn_ => (Kd.fresh' (Kd.R_lt (zr_ HO324.out)) k_ hn_)), Or.elim hk_ (fun hs_ => fun e_ => ((((Kd.R_apart' HO340.out (Kd.R_typed HO359.out) (by decide))).1 k_ e_.symm).2) hs_) (fun hn_ => (Kd.fresh' (Kd.R_lt (zr_ HO340.out)) k_ hn_)), Or.elim hk_ (fun hs_ => fun e_ => ((((Kd.R_apart' HO351.out (Kd.R_typed HO359.out) (by decide))).1 k_ e_.symm).2) hs_) (fun hn_ => (Kd.fresh' (Kd.R_lt (zr_ HO351.out)) k_ hn_))⟩))
   replace HO324 := Aside0.mk (Kd.R_mono (ok' := fun k_ => some k_ ≠ (.slice Ao49 t338.length co49 : Value).ownBlock ∧ some k_ ≠ (.slice Ao60 t349.length co60 : Value).ownBlock ∧ some k_ ≠ (v361 : Value).ownBlock) (Kd.R_keptB ((Kd.R_apart' HO324.out (Kd.R_typed HO359.out) (by decide))) hkp (fun k_ hk_ hs_ => (hk_.2) hs_)) (fun k_ hk_ => ⟨hk_.1.1.1, hk_.1.1.2, fun e_ => Or.elim (ho0.1 k_ e_.symm) (fun hs_ => hk_.2.1 hs_) (fun hn_ => Nat.not_le.2 hk_.2.2 hn_)⟩))
   replace HO340 := Aside0.mk (Kd.R_mono (ok' := fun k_ => some k_ ≠ (.slice Ao35 y322.length co35 : Value).ownBlock ∧ some k_ ≠ (.slice Ao60 t349.length co60 : Value).ownBlock ∧ some k_ ≠ (v361 : Value).ownBlock) (Kd.R_keptB ((Kd.R_apart' HO340.out (Kd.R_typed HO359.out) (by decide))) hkp (fun k_ hk_ hs_ => (hk_.2) hs_)) (fun k_ hk_ => ⟨hk_.1.1.1, hk_.1.1.2, fun e_ => Or.elim (ho0.1 k_ e_.symm) (fun hs_ => hk_.2.1 hs_) (fun hn_ => Nat.not_le.2 hk_.2.2 hn_)⟩))
   replace HO351 := Aside0.mk (Kd.R_mono (ok' := fun k_ => some k_ ≠ (.slice Ao35 y322.length co35 : Value).ownBlock ∧ some k_ ≠ (.slice Ao49 t338.length co49 : Value).ownBlock ∧ some k_ ≠ (v361 : Value).ownBlock) (Kd.R_keptB ((Kd.R_apart' HO351.out (Kd.R_typed HO359.out) (by decide))) hkp (fun k_ hk_ hs_ => (hk_.2) hs_)) (fun k_ hk_ => ⟨hk_.1.1.1, hk_.1.1.2, fun e_ => Or.elim (ho0.1 k_ e_.symm) (fun hs_ => hk_.2.1 hs_) (fun hn_ => Nat.not_le.2 hk_.2.2 hn_)⟩))
   have HO365 := Aside0.mk (Kd.R_mono (ok' := fun k_ => some k_ ≠ (.slice Ao34 y325.length co34 : Value).ownBlock ∧ some k_ ≠ (.slice Ao51 t341.length co51 : Value).ownBlock ∧ some k_ ≠ (.slice Ao64 t352.length co64 : Value).ownBlock) ho1 (fun k_ hk_ => ⟨Or.elim hk_ (fun hs_ => fun e_ => (((HO327.out).1 k_ e_.symm).2) hs_) (fun hn_ => (Kd.fresh' (Kd.R_lt (zr_ HO327.out)) k_ hn_)), Or.elim hk_ (fun hs_ => fun e_ => (((HO343.out).1 k_ e_.symm).2) hs_) (fun hn_ => (Kd.fresh' (Kd.R_lt (zr_ HO343.out)) k_ hn_)), Or.elim hk_ (fun hs_ => fun e_ => (((HO354.out).1 k_ e_.symm).2) hs_) (fun hn_ => (Kd.fresh' (Kd.R_lt (zr_ HO354.out)) k_ hn_))⟩))
   replace HO327 := Aside0.mk (Kd.R_mono (ok' := fun k_ => some k_ ≠ (.slice Ao51 t341.length co51 : Value).ownBlock ∧ some k_ ≠ (.slice Ao64 t352.length co64 : Value).ownBlock ∧ some k_ ≠ (v364 : Value).ownBlock) (Kd.R_keptB (HO327.out) hkp (fun k_ hk_ hs_ => (hk_.2) hs_)) (fun k_ hk_ => ⟨hk_.1.1.1, hk_.1.1.2, fun e_ => Or.elim (ho1.1 k_ e_.symm) (fun hs_ => hk_.2.1 hs_) (fun hn_ => Nat.not_le.2 hk_.2.2 hn_)⟩))
   replace HO343 := Aside0.mk (Kd.R_mono (ok' := fun k_ => some k_ ≠ (.slice Ao34 y325.length co34 : Value).ownBlock ∧ some k_ ≠ (.slice Ao64 t352.length co64 : Value).ownBlock ∧ some k_ ≠ (v364 : Value).ownBlock) (Kd.R_keptB (HO343.out) hkp (fun k_ hk_ hs_ => (hk_.2) hs_)) (fun k_ hk_ => ⟨hk_.1.1.1, hk_.1.1.2, fun e_ => Or.elim (ho1.1 k_ e_.symm) (fun hs_ => hk_.2.1 hs_) (fun hn_ => Nat.not_le.2 hk_.2.2 hn_)⟩))
   replace HO354 := Aside0.mk (Kd.R_mono (ok' := fun k_ => some k_ ≠ (.slice Ao34 y325.length co34 : Value).ownBlock ∧ some k_ ≠ (.slice Ao51 t341.length co51 : Value).ownBlock ∧ some k_ ≠ (v364 : Value).ownBlock) (Kd.R_keptB (HO354.out) hkp (fun k_ hk_ hs_ => (hk_.2) hs_)) (fun k_ hk_ => ⟨hk_.1.1.1, hk_.1.1.2, fun e_ => Or.elim (ho1.1 k_ e_.symm) (fun hs_ => hk_.2.1 hs_) (fun hn_ => Nat.not_le.2 hk_.2.2 hn_)⟩))
   replace HB := Aside0.mk (hb)
   clear HO359
   (try clear hb)
   (try clear hkp)
   (try clear ho0)
   (try clear ho1)
   obtain ⟨Ao72, co72, eo72⟩ := Kd.R_slice HO362.out
   (first | subst eo72 | (injection eo72 with f1_ f2_ f3_; have f4_ := f1_.symm; have f5_ := f3_.symm; clear f1_ f2_ f3_; subst f4_; subst f5_))
   obtain ⟨Ao73, co73, eo73⟩ := Kd.R_slice HO365.out
   (first | subst eo73 | (injection eo73 with f1_ f2_ f3_; have f4_ := f1_.symm; have f5_ := f3_.symm; clear f1_ f2_ f3_; subst f4_; subst f5_))
   refine hK.out _ _ ⟨zx_ BK328 0, zx_ BK328 1⟩ (fun hHeld => ?_)
   clear hK K
   refine zq_ (some 41) (h := ?_)
   refine yo_ 3 (some 42) (fun K hK => ?_)
   refine yg_ Try.func19 #[.agg #[.slice Ao35 y322.length co35, .slice Ao34 y325.length co34], .agg #[.slice Ao72 t360.length co72, .slice Ao73 t363.length co73]] ?_
   with_reducible refine (tens_Add.calls k _ _ y322 _ _ y325 _ _ t360 _ _ t363 t366 t369 t372 _ ?side1 ?side2 ?side3 ?side4 ?side5 ?side6 ?side7 ?side8 A7.out).mono ?_
   (case side1 => exact zk_ ((Kd.R_reads' HO324.out).2.2))
   (case side2 => exact (Kd.R_reads' HO324.out).2.1)
   (case side3 => exact zk_ ((Kd.R_reads' HO327.out).2.2))
   (case side4 => exact (Kd.R_reads' HO327.out).2.1)
   (case side5 => exact zk_ ((Kd.R_reads' HO362.out).2.2))
   (case side6 => exact (Kd.R_reads' HO362.out).2.1)
   (case side7 => exact zk_ ((Kd.R_reads' HO365.out).2.2))
   (case side8 => exact (Kd.R_reads' HO365.out).2.1)
   rintro e w74 ⟨v367, v370, rfl, ho0, ho1, hb⟩
   refine ⟨_, rfl, ?_⟩
   have HO368 := Aside0.mk (Kd.R_lower (Kd.R_new' (Kd.R_new' (Kd.R_new' (Kd.R_new' ho0 (Kd.R_lt (zr_ HO324.out))) (Kd.R_lt (zr_ HO340.out))) (Kd.R_lt (zr_ HO351.out))) (Kd.R_lt (zr_ HO362.out))) (below_size (zw4_ HB GE328 GE345 GE356 GE373)))
   replace HO324 := ze_ HO324 ho0 hb
   replace HO340 := ze_ HO340 ho0 hb
   replace HO351 := ze_ HO351 ho0 hb
   replace HO362 := ze_ HO362 ho0 hb
   have HO371 := Aside0.mk (Kd.R_lower (Kd.R_new' (Kd.R_new' (Kd.R_new' (Kd.R_new' ho1 (Kd.R_lt (zr_ HO327.out))) (Kd.R_lt (zr_ HO343.out))) (Kd.R_lt (zr_ HO354.out))) (Kd.R_lt (zr_ HO365.out))) (below_size (zw4_ HB GE328 GE345 GE356 GE373)))
   replace HO327 := ze_ HO327 ho1 hb
   replace HO343 := ze_ HO343 ho1 hb
   replace HO354 := ze_ HO354 ho1 hb
   replace HO365 := ze_ HO365 ho1 hb
   replace BK328 := za_ BK328 hb
   replace BK345 := za_ BK345 hb
   replace BK356 := za_ BK356 hb
   replace BK373 := za_ BK373 hb
   replace HB := Aside0.mk (below_step (zw4_ HB GE328 GE345 GE356 GE373) hb)
   (try clear hb)
   (try clear hb2)
   (try clear hk)
   (try clear hi)
   (try clear ho0)
   (try clear ho1)
   refine hK.out _ _ ⟨zx_ BK328 0, zx_ BK328 1⟩ (fun hHeld => ?_)
   clear hK K
   refine zq_ (some 42) (h := ?_)
   refine yp_ ?_ 4 38
   refine yp_ ?_ 5 43
   refine yp_ ?_ 6 44
   exact zj_ (hCont (.slice Ao70 y357.length co70, .slice Ao72 t360.length co72, .slice Ao73 t363.length co73, v367, v370, gb373) _ ⟨hHeld, (zr_ (Kd.R_mono HO324.out (fun _ hk => ⟨hk.1.1, ⟨hk.1.2.1, ⟨hk.1.2.2, hk.2⟩⟩⟩))), (zr_ (Kd.R_mono HO327.out (fun _ hk => ⟨hk.1.1, ⟨hk.1.2.1, ⟨hk.1.2.2, hk.2⟩⟩⟩))), (zr_ (Kd.R_mono HO340.out (fun _ hk => ⟨hk.1.1, ⟨hk.1.2.1, ⟨hk.1.2.2, hk.2⟩⟩⟩))), (zr_ (Kd.R_mono HO343.out (fun _ hk => ⟨hk.1.1, ⟨hk.1.2.1, ⟨hk.1.2.2, hk.2⟩⟩⟩))), (zr_ (Kd.R_mono HO351.out (fun _ hk => ⟨hk.1.1, ⟨hk.1.2.1, ⟨hk.1.2.2, hk.2⟩⟩⟩))), (zr_ (Kd.R_mono HO354.out (fun _ hk => ⟨hk.1.1, ⟨hk.1.2.1, ⟨hk.1.2.2, hk.2⟩⟩⟩))), (zr_ (Kd.R_mono HO362.out (fun _ hk => ⟨hk.1.1, ⟨hk.1.2.1, ⟨hk.1.2.2, hk.2⟩⟩⟩))), (zr_ (Kd.R_mono HO365.out (fun _ hk => ⟨hk.1.1, ⟨hk.1.2.1, ⟨hk.1.2.2, hk.2⟩⟩⟩))), (zr_ (Kd.R_mono HO368.out (fun _ hk => ⟨hk.1.1.1.2, ⟨hk.1.1.2, ⟨hk.1.2, hk.2⟩⟩⟩))), (zr_ (Kd.R_mono HO371.out (fun _ hk => ⟨hk.1.1.1.2, ⟨hk.1.1.2, ⟨hk.1.2, hk.2⟩⟩⟩))), (zb_ BK328), (zb_ BK345), (zb_ BK356), (zb_ BK373), GW373.out, GE373.out, NB328_373.out, NB373_328.out, NB345_373.out, NB373_345.out, NB356_373.out, NB373_356.out, (zw4_ HB GE328 GE345 GE356 GE373)⟩)
  skip
  refine box_step ?hg (N := 6) ?hd (cs := #[.slice none 0 0, .slice none 0 0]) (t := 27) ?hr ?_; (case hd => rfl); (case hg => rfl); (case hr => first | (go_simp; done) | (go_simp; rfl))
  intro gb373 hg w67 hbox hb
  replace HO324 := zy_ HO324 hb
  replace HO327 := zy_ HO327 hb
  replace HO340 := zy_ HO340 hb
  replace HO343 := zy_ HO343 hb
  replace HO351 := zy_ HO351 hb
  replace HO354 := zy_ HO354 hb
  have BK373 := Aside0.mk (hbox)
  have GW373 := Aside0.mk (zs_ hg (zw3_ HB GE328 GE345 GE356))
  have GE373 := Aside0.mk (zs_ hg (zw3_ HB GE328 GE345 GE356))
  replace HB := Aside0.mk (below_step (zw3_ HB GE328 GE345 GE356) hb)
  have NB328_373 := Aside0.mk (zn_ hg BK328)
  have NB373_328 := Aside0.mk (zm_ hg BK328)
  replace BK328 := za_ BK328 hb
  have NB345_373 := Aside0.mk (zn_ hg BK345)
  have NB373_345 := Aside0.mk (zm_ hg BK345)
  replace BK345 := za_ BK345 hb
  have NB356_373 := Aside0.mk (zn_ hg BK356)
  have NB373_356 := Aside0.mk (zm_ hg BK356)
  replace BK356 := za_ BK356 hb
  clear hb hbox hg
  refine hK.out _ _ ⟨zx_ BK328 0, zx_ BK328 1⟩ (fun hHeld => ?_)
  clear hK K
  refine zq_ (some 6) (h := ?_)
  refine yo_ 1 (some 40) (fun K hK => ?_)
  refine Kd.R_lit_step (Kd.int .i64) _ 23 ?hg (N := 40) ?hd (xs := ([1, 2, 3] : List Int)) (inner := [.int .i64 1, .int .i64 2, .int .i64 3]) (ok := fun _ => True) (okp := fun _ => True) ?hr ?hp (fun _ hk => hk) trivial (Below.refl _ _) (Nat.le_refl _) (by simp) ?_; (case hd => rfl); (case hg => rfl); (case hr => first | (go_simp; done) | (go_simp; rfl)); (case hp => exact (Reps.one (show Kd.M (Kd.int .i64) _ _ _ 1 [.int .i64 1] from rfl) (Reps.one (show Kd.M (Kd.int .i64) _ _ _ 2 [.int .i64 2] from rfl) (Reps.one (show Kd.M (Kd.int .i64) _ _ _ 3 [.int .i64 3] from rfl) (Reps.none _ _)))))
  intro v358 w68 ho69 hb hg_ hnew_
  clear hg_ hnew_
  (first | rw [← Ny357.out] at ho69 | (simp only [Int.reduceToNat] at ho69; rw [← Ny357.out] at ho69))
  replace HO324 := zy_ HO324 hb
  replace HO340 := zy_ HO340 hb
  replace HO351 := zy_ HO351 hb
  have HO359 := Aside0.mk (Kd.R_lower (Kd.R_new' (Kd.R_new' (Kd.R_new' ho69 (Kd.R_lt (zr_ HO327.out))) (Kd.R_lt (zr_ HO343.out))) (Kd.R_lt (zr_ HO354.out))) (below_size (zw4_ HB GE328 GE345 GE356 GE373)))
  replace HO327 := ze_ HO327 ho69 hb
  replace HO343 := ze_ HO343 ho69 hb
  replace HO354 := ze_ HO354 ho69 hb
  replace BK328 := za_ BK328 hb
  replace BK345 := za_ BK345 hb
  replace BK356 := za_ BK356 hb
  replace BK373 := za_ BK373 hb
  replace HB := Aside0.mk (below_step (zw4_ HB GE328 GE345 GE356 GE373) hb)
  clear hb ho69
  obtain ⟨Ao70, co70, eo70⟩ := Kd.R_slice HO359.out
  (first | subst eo70 | (injection eo70 with f1_ f2_ f3_; have f4_ := f1_.symm; have f5_ := f3_.symm; clear f1_ f2_ f3_; subst f4_; subst f5_))
  refine hK.out _ _ ⟨zx_ BK328 0, zx_ BK328 1⟩ (fun hHeld => ?_)
  clear hK K
  refine zq_ (some 40) (h := ?_)
  refine yo_ 2 (some 41) (fun K hK => ?_)
  refine yg_ Try.func28 #[.slice Ao70 y357.length co70] ?_
  with_reducible refine (carousellaw6_row.calls (fun k_ => some k_ = (.slice Ao70 y357.length co70 : Value).ownBlock) (.slice Ao70 y357.length co70) y357 t360 t363 w _ ?side1 ?side2 A6.out).mono ?_
  (case side1 => repeat (first | (with_reducible first | exact HB.out | apply below_alloc | apply pw_below_drewN | apply below_drew1 | refine below_set ?_ GE328.out | refine below_set ?_ GE345.out | refine below_set ?_ GE356.out | refine below_set ?_ GE373.out) | exact HB.out))
  (case side2 => exact Kd.R_tight rfl HO359.out)
  rintro e w71 ⟨v361, v364, rfl, ho0, ho1, hb, hkp⟩
  refine ⟨_, rfl, ?_⟩
  replace BK328 := Aside0.mk (blk_kept (zb_ BK328) hkp (fun hs_ => (fun e_ => (Kd.R_ne HO359.out BK328.out (by decide)) e_) hs_))
  replace BK345 := Aside0.mk (blk_kept (zb_ BK345) hkp (fun hs_ => (fun e_ => (Kd.R_ne HO359.out BK345.out (by decide)) e_) hs_))
  replace BK356 := Aside0.mk (blk_kept (zb_ BK356) hkp (fun hs_ => (fun e_ => (Kd.R_ne HO359.out BK356.out (by decide)) e_) hs_))
  replace BK373 := Aside0.mk (blk_kept (zb_ BK373) hkp (fun hs_ => (fun e_ => (Kd.R_ne HO359.out BK373.out (by decide)) e_) hs_))
  have HO362 := Aside0.mk (Kd.R_mono (ok' := fun k_ => some k_ ≠ (.slice Ao35 y322.length co35 : Value).ownBlock ∧ some k_ ≠ (.slice Ao49 t338.length co49 : Value).ownBlock ∧ some k_ ≠ (.slice Ao60 t349.length co60 : Value).ownBlock) ho0 (fun k_ hk_ => ⟨Or.elim hk_ (fun hs_ => fun e_ => ((((Kd.R_apart' HO324.out (Kd.R_typed HO359.out) (by decide))).1 k_ e_.symm).2) hs_) (fun hn_ => (Kd.fresh' (Kd.R_lt (zr_ HO324.out)) k_ hn_)), Or.elim hk_ (fun hs_ => fun e_ => ((((Kd.R_apart' HO340.out (Kd.R_typed HO359.out) (by decide))).1 k_ e_.symm).2) hs_) (fun hn_ => (Kd.fresh' (Kd.R_lt (zr_ HO340.out)) k_ hn_)), Or.elim hk_ (fun hs_ => fun e_ => ((((Kd.R_apart' HO351.out (Kd.R_typed HO359.out) (by decide))).1 k_ e_.symm).2) hs_) (fun hn_ => (Kd.fresh' (Kd.R_lt (zr_ HO351.out)) k_ hn_))⟩))
  replace HO324 := Aside0.mk (Kd.R_mono (ok' := fun k_ => some k_ ≠ (.slice Ao49 t338.length co49 : Value).ownBlock ∧ some k_ ≠ (.slice Ao60 t349.length co60 : Value).ownBlock ∧ some k_ ≠ (v361 : Value).ownBlock) (Kd.R_keptB ((Kd.R_apart' HO324.out (Kd.R_typed HO359.out) (by decide))) hkp (fun k_ hk_ hs_ => (hk_.2) hs_)) (fun k_ hk_ => ⟨hk_.1.1.1, hk_.1.1.2, fun e_ => Or.elim (ho0.1 k_ e_.symm) (fun hs_ => hk_.2.1 hs_) (fun hn_ => Nat.not_le.2 hk_.2.2 hn_)⟩))
  replace HO340 := Aside0.mk (Kd.R_mono (ok' := fun k_ => some k_ ≠ (.slice Ao35 y322.length co35 : Value).ownBlock ∧ some k_ ≠ (.slice Ao60 t349.length co60 : Value).ownBlock ∧ some k_ ≠ (v361 : Value).ownBlock) (Kd.R_keptB ((Kd.R_apart' HO340.out (Kd.R_typed HO359.out) (by decide))) hkp (fun k_ hk_ hs_ => (hk_.2) hs_)) (fun k_ hk_ => ⟨hk_.1.1.1, hk_.1.1.2, fun e_ => Or.elim (ho0.1 k_ e_.symm) (fun hs_ => hk_.2.1 hs_) (fun hn_ => Nat.not_le.2 hk_.2.2 hn_)⟩))
  replace HO351 := Aside0.mk (Kd.R_mono (ok' := fun k_ => some k_ ≠ (.slice Ao35 y322.length co35 : Value).ownBlock ∧ some k_ ≠ (.slice Ao49 t338.length co49 : Value).ownBlock ∧ some k_ ≠ (v361 : Value).ownBlock) (Kd.R_keptB ((Kd.R_apart' HO351.out (Kd.R_typed HO359.out) (by decide))) hkp (fun k_ hk_ hs_ => (hk_.2) hs_)) (fun k_ hk_ => ⟨hk_.1.1.1, hk_.1.1.2, fun e_ => Or.elim (ho0.1 k_ e_.symm) (fun hs_ => hk_.2.1 hs_) (fun hn_ => Nat.not_le.2 hk_.2.2 hn_)⟩))
  have HO365 := Aside0.mk (Kd.R_mono (ok' := fun k_ => some k_ ≠ (.slice Ao34 y325.length co34 : Value).ownBlock ∧ some k_ ≠ (.slice Ao51 t341.length co51 : Value).ownBlock ∧ some k_ ≠ (.slice Ao64 t352.length co64 : Value).ownBlock) ho1 (fun k_ hk_ => ⟨Or.elim hk_ (fun hs_ => fun e_ => (((HO327.out).1 k_ e_.symm).2) hs_) (fun hn_ => (Kd.fresh' (Kd.R_lt (zr_ HO327.out)) k_ hn_)), Or.elim hk_ (fun hs_ => fun e_ => (((HO343.out).1 k_ e_.symm).2) hs_) (fun hn_ => (Kd.fresh' (Kd.R_lt (zr_ HO343.out)) k_ hn_)), Or.elim hk_ (fun hs_ => fun e_ => (((HO354.out).1 k_ e_.symm).2) hs_) (fun hn_ => (Kd.fresh' (Kd.R_lt (zr_ HO354.out)) k_ hn_))⟩))
  replace HO327 := Aside0.mk (Kd.R_mono (ok' := fun k_ => some k_ ≠ (.slice Ao51 t341.length co51 : Value).ownBlock ∧ some k_ ≠ (.slice Ao64 t352.length co64 : Value).ownBlock ∧ some k_ ≠ (v364 : Value).ownBlock) (Kd.R_keptB (HO327.out) hkp (fun k_ hk_ hs_ => (hk_.2) hs_)) (fun k_ hk_ => ⟨hk_.1.1.1, hk_.1.1.2, fun e_ => Or.elim (ho1.1 k_ e_.symm) (fun hs_ => hk_.2.1 hs_) (fun hn_ => Nat.not_le.2 hk_.2.2 hn_)⟩))
  replace HO343 := Aside0.mk (Kd.R_mono (ok' := fun k_ => some k_ ≠ (.slice Ao34 y325.length co34 : Value).ownBlock ∧ some k_ ≠ (.slice Ao64 t352.length co64 : Value).ownBlock ∧ some k_ ≠ (v364 : Value).ownBlock) (Kd.R_keptB (HO343.out) hkp (fun k_ hk_ hs_ => (hk_.2) hs_)) (fun k_ hk_ => ⟨hk_.1.1.1, hk_.1.1.2, fun e_ => Or.elim (ho1.1 k_ e_.symm) (fun hs_ => hk_.2.1 hs_) (fun hn_ => Nat.not_le.2 hk_.2.2 hn_)⟩))
  replace HO354 := Aside0.mk (Kd.R_mono (ok' := fun k_ => some k_ ≠ (.slice Ao34 y325.length co34 : Value).ownBlock ∧ some k_ ≠ (.slice Ao51 t341.length co51 : Value).ownBlock ∧ some k_ ≠ (v364 : Value).ownBlock) (Kd.R_keptB (HO354.out) hkp (fun k_ hk_ hs_ => (hk_.2) hs_)) (fun k_ hk_ => ⟨hk_.1.1.1, hk_.1.1.2, fun e_ => Or.elim (ho1.1 k_ e_.symm) (fun hs_ => hk_.2.1 hs_) (fun hn_ => Nat.not_le.2 hk_.2.2 hn_)⟩))
  replace HB := Aside0.mk (hb)
  clear HO359
  (try clear hb)
  (try clear hkp)
  (try clear ho0)
  (try clear ho1)
  obtain ⟨Ao72, co72, eo72⟩ := Kd.R_slice HO362.out
  (first | subst eo72 | (injection eo72 with f1_ f2_ f3_; have f4_ := f1_.symm; have f5_ := f3_.symm; clear f1_ f2_ f3_; subst f4_; subst f5_))
  obtain ⟨Ao73, co73, eo73⟩ := Kd.R_slice HO365.out
  (first | subst eo73 | (injection eo73 with f1_ f2_ f3_; have f4_ := f1_.symm; have f5_ := f3_.symm; clear f1_ f2_ f3_; subst f4_; subst f5_))
  refine hK.out _ _ ⟨zx_ BK328 0, zx_ BK328 1⟩ (fun hHeld => ?_)
  clear hK K
  refine zq_ (some 41) (h := ?_)
  refine yo_ 3 (some 42) (fun K hK => ?_)
  refine yg_ Try.func19 #[.agg #[.slice Ao35 y322.length co35, .slice Ao34 y325.length co34], .agg #[.slice Ao72 t360.length co72, .slice Ao73 t363.length co73]] ?_
  with_reducible refine (tens_Add.calls k _ _ y322 _ _ y325 _ _ t360 _ _ t363 t366 t369 t372 _ ?side1 ?side2 ?side3 ?side4 ?side5 ?side6 ?side7 ?side8 A7.out).mono ?_
  (case side1 => exact zk_ ((Kd.R_reads' HO324.out).2.2))
  (case side2 => exact (Kd.R_reads' HO324.out).2.1)
  (case side3 => exact zk_ ((Kd.R_reads' HO327.out).2.2))
  (case side4 => exact (Kd.R_reads' HO327.out).2.1)
  (case side5 => exact zk_ ((Kd.R_reads' HO362.out).2.2))
  (case side6 => exact (Kd.R_reads' HO362.out).2.1)
  (case side7 => exact zk_ ((Kd.R_reads' HO365.out).2.2))
  (case side8 => exact (Kd.R_reads' HO365.out).2.1)
  rintro e w74 ⟨v367, v370, rfl, ho0, ho1, hb⟩
  refine ⟨_, rfl, ?_⟩
  have HO368 := Aside0.mk (Kd.R_lower (Kd.R_new' (Kd.R_new' (Kd.R_new' (Kd.R_new' ho0 (Kd.R_lt (zr_ HO324.out))) (Kd.R_lt (zr_ HO340.out))) (Kd.R_lt (zr_ HO351.out))) (Kd.R_lt (zr_ HO362.out))) (below_size (zw4_ HB GE328 GE345 GE356 GE373)))
  replace HO324 := ze_ HO324 ho0 hb
  replace HO340 := ze_ HO340 ho0 hb
  replace HO351 := ze_ HO351 ho0 hb
  replace HO362 := ze_ HO362 ho0 hb
  have HO371 := Aside0.mk (Kd.R_lower (Kd.R_new' (Kd.R_new' (Kd.R_new' (Kd.R_new' ho1 (Kd.R_lt (zr_ HO327.out))) (Kd.R_lt (zr_ HO343.out))) (Kd.R_lt (zr_ HO354.out))) (Kd.R_lt (zr_ HO365.out))) (below_size (zw4_ HB GE328 GE345 GE356 GE373)))
  replace HO327 := ze_ HO327 ho1 hb
  replace HO343 := ze_ HO343 ho1 hb
  replace HO354 := ze_ HO354 ho1 hb
  replace HO365 := ze_ HO365 ho1 hb
  replace BK328 := za_ BK328 hb
  replace BK345 := za_ BK345 hb
  replace BK356 := za_ BK356 hb
  replace BK373 := za_ BK373 hb
  replace HB := Aside0.mk (below_step (zw4_ HB GE328 GE345 GE356 GE373) hb)
  (try clear hb)
  (try clear hb2)
  (try clear hk)
  (try clear hi)
  (try clear ho0)
  (try clear ho1)
  refine hK.out _ _ ⟨zx_ BK328 0, zx_ BK328 1⟩ (fun hHeld => ?_)
  clear hK K
  refine zq_ (some 42) (h := ?_)
  refine yp_ ?_ 4 38
  refine yp_ ?_ 5 43
  refine yp_ ?_ 6 44
  exact zj_ (hCont (.slice Ao70 y357.length co70, .slice Ao72 t360.length co72, .slice Ao73 t363.length co73, v367, v370, gb373) _ ⟨hHeld, (zr_ (Kd.R_mono HO324.out (fun _ hk => ⟨hk.1.1, ⟨hk.1.2.1, ⟨hk.1.2.2, hk.2⟩⟩⟩))), (zr_ (Kd.R_mono HO327.out (fun _ hk => ⟨hk.1.1, ⟨hk.1.2.1, ⟨hk.1.2.2, hk.2⟩⟩⟩))), (zr_ (Kd.R_mono HO340.out (fun _ hk => ⟨hk.1.1, ⟨hk.1.2.1, ⟨hk.1.2.2, hk.2⟩⟩⟩))), (zr_ (Kd.R_mono HO343.out (fun _ hk => ⟨hk.1.1, ⟨hk.1.2.1, ⟨hk.1.2.2, hk.2⟩⟩⟩))), (zr_ (Kd.R_mono HO351.out (fun _ hk => ⟨hk.1.1, ⟨hk.1.2.1, ⟨hk.1.2.2, hk.2⟩⟩⟩))), (zr_ (Kd.R_mono HO354.out (fun _ hk => ⟨hk.1.1, ⟨hk.1.2.1, ⟨hk.1.2.2, hk.2⟩⟩⟩))), (zr_ (Kd.R_mono HO362.out (fun _ hk => ⟨hk.1.1, ⟨hk.1.2.1, ⟨hk.1.2.2, hk.2⟩⟩⟩))), (zr_ (Kd.R_mono HO365.out (fun _ hk => ⟨hk.1.1, ⟨hk.1.2.1, ⟨hk.1.2.2, hk.2⟩⟩⟩))), (zr_ (Kd.R_mono HO368.out (fun _ hk => ⟨hk.1.1.1.2, ⟨hk.1.1.2, ⟨hk.1.2, hk.2⟩⟩⟩))), (zr_ (Kd.R_mono HO371.out (fun _ hk => ⟨hk.1.1.1.2, ⟨hk.1.1.2, ⟨hk.1.2, hk.2⟩⟩⟩))), (zb_ BK328), (zb_ BK345), (zb_ BK356), (zb_ BK373), GW373.out, GE373.out, NB328_373.out, NB373_328.out, NB345_373.out, NB373_345.out, NB356_373.out, NB373_356.out, (zw4_ HB GE328 GE345 GE356 GE373)⟩)
 rintro ⟨v358, v361, v364, v367, v370, gb373⟩ w75 ⟨hS_, h0_, h1_, h2_, h3_, h4_, h5_, h6_, h7_, h8_, h9_, h10_, h11_, h12_, h13_, h14_, h15_, h16_, h17_, h18_, h19_, h20_, h21_, h22_⟩
 (try dsimp only at h0_ h1_ h2_ h3_ h4_ h5_ h6_ h7_ h8_ h9_ h10_ h11_ h12_ h13_ h14_ h15_ h16_ h17_ h18_ h19_ h20_ h21_ h22_)
 clear HO324 HO327 HO340 HO343 HO351 HO354 BK328 BK345 BK356 HB
 have HO324 := Aside0.mk h0_
 have HO327 := Aside0.mk h1_
 have HO340 := Aside0.mk h2_
 have HO343 := Aside0.mk h3_
 have HO351 := Aside0.mk h4_
 have HO354 := Aside0.mk h5_
 have HO362 := Aside0.mk h6_
 have HO365 := Aside0.mk h7_
 have HO368 := Aside0.mk h8_
 have HO371 := Aside0.mk h9_
 have BK328 := Aside0.mk h10_
 have BK345 := Aside0.mk h11_
 have BK356 := Aside0.mk h12_
 have BK373 := Aside0.mk h13_
 have GW373 := Aside0.mk h14_
 have GE373 := Aside0.mk h15_
 have NB328_373 := Aside0.mk h16_
 have NB373_328 := Aside0.mk h17_
 have NB345_373 := Aside0.mk h18_
 have NB373_345 := Aside0.mk h19_
 have NB356_373 := Aside0.mk h20_
 have NB373_356 := Aside0.mk h21_
 have HB := Aside0.mk h22_
 clear h0_ h1_ h2_ h3_ h4_ h5_ h6_ h7_ h8_ h9_ h10_ h11_ h12_ h13_ h14_ h15_ h16_ h17_ h18_ h19_ h20_ h21_ h22_
 have hHeld : w75.cell? ⟨gb328, 0, none⟩ = some (.slice Ao35 y322.length co35) ∧ w75.cell? ⟨gb328, 1, none⟩ = some (.slice Ao34 y325.length co34) := hS_
 obtain ⟨Ao76, co76, eo76⟩ := Kd.R_slice HO368.out
 (first | subst eo76 | (injection eo76 with f1_ f2_ f3_; have f4_ := f1_.symm; have f5_ := f3_.symm; clear f1_ f2_ f3_; subst f4_; subst f5_))
 obtain ⟨Ao78, co78, eo78⟩ := Kd.R_slice HO371.out
 (first | subst eo78 | (injection eo78 with f1_ f2_ f3_; have f4_ := f1_.symm; have f5_ := f3_.symm; clear f1_ f2_ f3_; subst f4_; subst f5_))
 refine zi_ (h := ?_)
 refine yo_ 8 none (fun K hK => ?_)
 have hs77 := zx_ (v := .slice none 0 0) BK373 0
 have hfs77 := blk_frozen BK373.out 0
 have hns77_0 := NB328_373.out
 have hns77_1 := NB345_373.out
 have hns77_2 := NB356_373.out
 have hms77_0 := NB373_328.out
 have hms77_1 := NB373_345.out
 have hms77_2 := NB373_356.out
 have hs79 := zx_ (v := .slice none 0 0) BK373 1
 have hfs79 := blk_frozen BK373.out 1
 have hns79_0 := NB328_373.out
 have hns79_1 := NB345_373.out
 have hns79_2 := NB356_373.out
 have hms79_0 := NB373_328.out
 have hms79_1 := NB373_345.out
 have hms79_2 := NB373_356.out
 refine skip_ (w1 := ?_) (by rfl) rfl ?_ ?_
 rotate_left
 ·go_simp
  rfl
 refine hK.out _ _ ⟨((cell_far (p := ⟨gb373, _, none⟩) NB328_373.out _).trans (((cell_far (p := ⟨gb373, _, none⟩) NB328_373.out _).trans (hHeld.1)))), ((cell_far (p := ⟨gb373, _, none⟩) NB328_373.out _).trans (((cell_far (p := ⟨gb373, _, none⟩) NB328_373.out _).trans (hHeld.2))))⟩ (fun hHeld => ?_)
 clear hK K
 refine yp_ ?_ 9 7
 refine done_ (done_of HT_.out (by kernel_rfl)) ?_
 have hnb80 := NB328_373.out
 have hnc80 := NB373_328.out
 have hcz81_0 := zx_ (v := .slice Ao35 y322.length co35) BK328 0
 have hcz81_1 := zx_ (v := .slice Ao34 y325.length co34) BK328 1
 have hfz81_0 := blk_frozen BK328.out 0
 have hfz81_1 := blk_frozen BK328.out 1
 try go_wp2_with (first | ((with_reducible refine gate_dst (N := 47) rfl ?_); (try (refine gate_guard (by rfl) ?_; dsimp only)); refine Kd.R_lit (Kd.int .i64) _ 3 ?hg (N := 47) ?hd (xs := ([2] : List Int)) (inner := [.int .i64 2]) (ok := fun _ => True) (okp := fun _ => True) ?hr ?hp (fun _ hk => hk) trivial (Below.refl _ _) (Nat.le_refl _) (by simp) ?_; (case hd => rfl); (case hg => rfl); (case hr => first | (go_simp; done) | (go_simp; rfl)); (case hp => exact (Reps.one (show Kd.M (Kd.int .i64) _ _ _ 2 [.int .i64 2] from rfl) (Reps.none _ _))); intro v375 w82 ho83 hb hg_ hnew_; clear hg_ hnew_; (first | rw [← Ny374.out] at ho83 | (simp only [Int.reduceToNat] at ho83; rw [← Ny374.out] at ho83)); replace HO327 := Aside0.mk (Kd.R_below (zr_ ((zf_ HO327 BK373 (.slice Ao76 t366.length co76) (.slice Ao78 t369.length co78)))) hb); replace HO343 := Aside0.mk (Kd.R_below (zr_ ((zf_ HO343 BK373 (.slice Ao76 t366.length co76) (.slice Ao78 t369.length co78)))) hb); replace HO354 := Aside0.mk (Kd.R_below (zr_ ((zf_ HO354 BK373 (.slice Ao76 t366.length co76) (.slice Ao78 t369.length co78)))) hb); have HO376 := Aside0.mk (Kd.R_lower (Kd.R_new' (Kd.R_new' (Kd.R_new' ho83 (Kd.R_lt (zr_ ((zf_ HO324 BK373 (.slice Ao76 t366.length co76) (.slice Ao78 t369.length co78)))))) (Kd.R_lt (zr_ ((zf_ HO340 BK373 (.slice Ao76 t366.length co76) (.slice Ao78 t369.length co78)))))) (Kd.R_lt (zr_ ((zf_ HO351 BK373 (.slice Ao76 t366.length co76) (.slice Ao78 t369.length co78)))))) (below_size (zw4_ HB GE328 GE345 GE356 GE373))); replace HO324 := Aside0.mk (Kd.R_elder' (zr_ ((zf_ HO324 BK373 (.slice Ao76 t366.length co76) (.slice Ao78 t369.length co78)))) (Kd.R_base ho83) hb); replace HO340 := Aside0.mk (Kd.R_elder' (zr_ ((zf_ HO340 BK373 (.slice Ao76 t366.length co76) (.slice Ao78 t369.length co78)))) (Kd.R_base ho83) hb); replace HO351 := Aside0.mk (Kd.R_elder' (zr_ ((zf_ HO351 BK373 (.slice Ao76 t366.length co76) (.slice Ao78 t369.length co78)))) (Kd.R_base ho83) hb); replace BK328 := Aside0.mk (blk_below (g := gb328) (o := .cells #[.slice Ao35 y322.length co35, .slice Ao34 y325.length co34] 27 (0, 0)) (zv1_ BK328 NB328_373) hb); replace BK345 := Aside0.mk (blk_below (g := gb345) (o := .cells #[.slice Ao49 t338.length co49, .slice Ao51 t341.length co51] 27 (0, 0)) (zv1_ BK345 NB345_373) hb); replace BK356 := Aside0.mk (blk_below (g := gb356) (o := .cells #[.slice Ao60 t349.length co60, .slice Ao64 t352.length co64] 27 (0, 0)) (zv1_ BK356 NB356_373) hb); replace BK373 := Aside0.mk (blk_below (g := gb373) (o := .cells #[.slice Ao76 t366.length co76, .slice Ao78 t369.length co78] 27 (0, 0)) (zo2_ BK373) hb); replace HB := Aside0.mk (below_step (zw4_ HB GE328 GE345 GE356 GE373) hb); clear hb ho83; obtain ⟨Ao84, co84, eo84⟩ := Kd.R_slice HO376.out; subst eo84) | ((with_reducible refine gate_callee (f := 19) rfl ?_); refine zg_ (some 49) Try.func19 #[.agg #[.slice Ao35 y322.length co35, .slice Ao34 y325.length co34], .agg #[.slice Ao84 y374.length co84, .slice none 0 0]] (h := ?_); (refine (tens_Add.calls k _ _ y322 _ _ y325 _ _ y374 _ _ ([] : List Int) t377 t380 t383 _ ?side1 ?side2 ?side3 ?side4 ?side5 ?side6 ?side7 ?side8 A8.out).mono ?_); (case side1 => exact zk_ ((Kd.R_reads' HO324.out).2.2)); (case side2 => exact (Kd.R_reads' HO324.out).2.1); (case side3 => exact zk_ ((Kd.R_reads' HO327.out).2.2)); (case side4 => exact (Kd.R_reads' HO327.out).2.1); (case side5 => exact zk_ ((Kd.R_reads' HO376.out).2.2)); (case side6 => exact (Kd.R_reads' HO376.out).2.1); (case side7 => exact Kd.C_nil _ _); (case side8 => exact Nat.le_refl _); rintro e w85 ⟨v378, v381, rfl, ho0, ho1, hb⟩; refine ⟨_, rfl, ?_⟩; have HO379 := Aside0.mk (Kd.R_lower (Kd.R_new' (Kd.R_new' (Kd.R_new' (Kd.R_new' ho0 (Kd.R_lt (zr_ HO324.out))) (Kd.R_lt (zr_ HO340.out))) (Kd.R_lt (zr_ HO351.out))) (Kd.R_lt (zr_ HO376.out))) (below_size (zw3_ HB GE328 GE345 GE356))); replace HO324 := ze_ HO324 ho0 hb; replace HO340 := ze_ HO340 ho0 hb; replace HO351 := ze_ HO351 ho0 hb; replace HO376 := ze_ HO376 ho0 hb; have HO382 := Aside0.mk (Kd.R_lower (Kd.R_new' (Kd.R_new' (Kd.R_new' ho1 (Kd.R_lt (zr_ HO327.out))) (Kd.R_lt (zr_ HO343.out))) (Kd.R_lt (zr_ HO354.out))) (below_size (zw3_ HB GE328 GE345 GE356))); replace HO327 := ze_ HO327 ho1 hb; replace HO343 := ze_ HO343 ho1 hb; replace HO354 := ze_ HO354 ho1 hb; replace BK328 := za_ BK328 hb; replace BK345 := za_ BK345 hb; replace BK356 := za_ BK356 hb; replace HB := Aside0.mk (below_step (zw3_ HB GE328 GE345 GE356) hb); (try clear hb); (try clear ho0); (try clear ho1)) | ((with_reducible refine gate_dst (N := 8) rfl ?_); (try (refine gate_guard (by rfl) ?_; dsimp only)); refine box_event ?hg (N := 8) ?hd (cs := #[.slice none 0 0, .slice none 0 0]) (t := 27) ?hr ?_; (case hd => rfl); (case hg => rfl); (case hr => first | (go_simp; done) | (go_simp; rfl)); intro gb384 hg w86 hbox hb; replace HO324 := zy_ HO324 hb; replace HO327 := zy_ HO327 hb; replace HO340 := zy_ HO340 hb; replace HO343 := zy_ HO343 hb; replace HO351 := zy_ HO351 hb; replace HO354 := zy_ HO354 hb; replace HO379 := zy_ HO379 hb; replace HO382 := zy_ HO382 hb; have BK384 := Aside0.mk (hbox); have GW384 := Aside0.mk (zs_ hg (zw3_ HB GE328 GE345 GE356)); have GE384 := Aside0.mk (zs_ hg (zw3_ HB GE328 GE345 GE356)); replace HB := Aside0.mk (below_step (zw3_ HB GE328 GE345 GE356) hb); have NB328_384 := Aside0.mk (zn_ hg BK328); have NB384_328 := Aside0.mk (zm_ hg BK328); replace BK328 := za_ BK328 hb; have NB345_384 := Aside0.mk (zn_ hg BK345); have NB384_345 := Aside0.mk (zm_ hg BK345); replace BK345 := za_ BK345 hb; have NB356_384 := Aside0.mk (zn_ hg BK356); have NB384_356 := Aside0.mk (zm_ hg BK356); replace BK356 := za_ BK356 hb; clear hb hbox hg; obtain ⟨Ao87, co87, eo87⟩ := Kd.R_slice HO379.out; subst eo87; have hnb88 := NB384_328.out; have hnc88 := NB328_384.out; have hnb89 := NB384_345.out; have hnc89 := NB345_384.out; have hnb90 := NB384_356.out; have hnc90 := NB356_384.out; have hcz91_0 := zx_ (v := .slice none 0 0) BK384 0; have hcz91_1 := zx_ (v := .slice none 0 0) BK384 1; have hfz91_0 := blk_frozen BK384.out 0; have hfz91_1 := blk_frozen BK384.out 1; obtain ⟨Ao92, co92, eo92⟩ := Kd.R_slice HO382.out; subst eo92; have hcz93_0 := zx_ (v := .slice Ao35 y322.length co35) BK328 0; have hcz93_1 := zx_ (v := .slice Ao34 y325.length co34) BK328 1; have hfz93_0 := blk_frozen BK328.out 0; have hfz93_1 := blk_frozen BK328.out 1) | ((with_reducible refine gate_dst (N := 54) rfl ?_); (try (refine gate_guard (by rfl) ?_; dsimp only)); refine Kd.R_lit (Kd.int .i64) _ 3 ?hg (N := 54) ?hd (xs := ([3] : List Int)) (inner := [.int .i64 3]) (ok := fun _ => True) (okp := fun _ => True) ?hr ?hp (fun _ hk => hk) trivial (Below.refl _ _) (Nat.le_refl _) (by simp) ?_; (case hd => rfl); (case hg => rfl); (case hr => first | (go_simp; done) | (go_simp; rfl)); (case hp => exact (Reps.one (show Kd.M (Kd.int .i64) _ _ _ 3 [.int .i64 3] from rfl) (Reps.none _ _))); intro v386 w94 ho95 hb hg_ hnew_; clear hg_ hnew_; (first | rw [← Ny385.out] at ho95 | (simp only [Int.reduceToNat] at ho95; rw [← Ny385.out] at ho95)); replace HO327 := Aside0.mk (Kd.R_below (zr_ ((zf_ HO327 BK384 (.slice Ao87 t377.length co87) (.slice Ao92 t380.length co92)))) hb); replace HO343 := Aside0.mk (Kd.R_below (zr_ ((zf_ HO343 BK384 (.slice Ao87 t377.length co87) (.slice Ao92 t380.length co92)))) hb); replace HO354 := Aside0.mk (Kd.R_below (zr_ ((zf_ HO354 BK384 (.slice Ao87 t377.length co87) (.slice Ao92 t380.length co92)))) hb); have HO387 := Aside0.mk (Kd.R_lower (Kd.R_new' (Kd.R_new' (Kd.R_new' ho95 (Kd.R_lt (zr_ ((zf_ HO324 BK384 (.slice Ao87 t377.length co87) (.slice Ao92 t380.length co92)))))) (Kd.R_lt (zr_ ((zf_ HO340 BK384 (.slice Ao87 t377.length co87) (.slice Ao92 t380.length co92)))))) (Kd.R_lt (zr_ ((zf_ HO351 BK384 (.slice Ao87 t377.length co87) (.slice Ao92 t380.length co92)))))) (below_size (zw4_ HB GE328 GE345 GE356 GE384))); replace HO324 := Aside0.mk (Kd.R_elder' (zr_ ((zf_ HO324 BK384 (.slice Ao87 t377.length co87) (.slice Ao92 t380.length co92)))) (Kd.R_base ho95) hb); replace HO340 := Aside0.mk (Kd.R_elder' (zr_ ((zf_ HO340 BK384 (.slice Ao87 t377.length co87) (.slice Ao92 t380.length co92)))) (Kd.R_base ho95) hb); replace HO351 := Aside0.mk (Kd.R_elder' (zr_ ((zf_ HO351 BK384 (.slice Ao87 t377.length co87) (.slice Ao92 t380.length co92)))) (Kd.R_base ho95) hb); replace BK328 := Aside0.mk (blk_below (g := gb328) (o := .cells #[.slice Ao35 y322.length co35, .slice Ao34 y325.length co34] 27 (0, 0)) (zv1_ BK328 NB328_384) hb); replace BK345 := Aside0.mk (blk_below (g := gb345) (o := .cells #[.slice Ao49 t338.length co49, .slice Ao51 t341.length co51] 27 (0, 0)) (zv1_ BK345 NB345_384) hb); replace BK356 := Aside0.mk (blk_below (g := gb356) (o := .cells #[.slice Ao60 t349.length co60, .slice Ao64 t352.length co64] 27 (0, 0)) (zv1_ BK356 NB356_384) hb); replace BK384 := Aside0.mk (blk_below (g := gb384) (o := .cells #[.slice Ao87 t377.length co87, .slice Ao92 t380.length co92] 27 (0, 0)) (zo2_ BK384) hb); replace HB := Aside0.mk (below_step (zw4_ HB GE328 GE345 GE356 GE384) hb); clear hb ho95; obtain ⟨Ao96, co96, eo96⟩ := Kd.R_slice HO387.out; subst eo96) | ((with_reducible refine gate_callee (f := 20) rfl ?_); refine zg_ (some 55) Try.func20 #[.agg #[.slice Ao35 y322.length co35, .slice Ao34 y325.length co34], .slice Ao96 y385.length co96] (h := ?_); (with_reducible refine (tens_Reshape.calls k _ _ y322 _ _ y325 _ _ y385 t388 t391 t394 _ ?side1 ?side2 ?side3 ?side4 ?side5 ?side6 A9.out).mono ?_); (case side1 => exact zk_ ((Kd.R_reads' HO324.out).2.2)); (case side2 => exact (Kd.R_reads' HO324.out).2.1); (case side3 => exact zk_ ((Kd.R_reads' HO327.out).2.2)); (case side4 => exact (Kd.R_reads' HO327.out).2.1); (case side5 => exact zk_ ((Kd.R_reads' HO387.out).2.2)); (case side6 => exact (Kd.R_reads' HO387.out).2.1); rintro e w97 ⟨v389, v392, rfl, ho0, ho1, hb⟩; refine ⟨_, rfl, ?_⟩; have HO390 := Aside0.mk (Kd.R_lower (Kd.R_new' (Kd.R_new' (Kd.R_new' (Kd.R_new' ho0 (Kd.R_lt (zr_ HO324.out))) (Kd.R_lt (zr_ HO340.out))) (Kd.R_lt (zr_ HO351.out))) (Kd.R_lt (zr_ HO387.out))) (below_size (zw3_ HB GE328 GE345 GE356))); replace HO324 := ze_ HO324 ho0 hb; replace HO340 := ze_ HO340 ho0 hb; replace HO351 := ze_ HO351 ho0 hb; replace HO387 := ze_ HO387 ho0 hb; have HO393 := Aside0.mk (Kd.R_lower (Kd.R_new' (Kd.R_new' (Kd.R_new' ho1 (Kd.R_lt (zr_ HO327.out))) (Kd.R_lt (zr_ HO343.out))) (Kd.R_lt (zr_ HO354.out))) (below_size (zw3_ HB GE328 GE345 GE356))); replace HO327 := ze_ HO327 ho1 hb; replace HO343 := ze_ HO343 ho1 hb; replace HO354 := ze_ HO354 ho1 hb; replace BK328 := za_ BK328 hb; replace BK345 := za_ BK345 hb; replace BK356 := za_ BK356 hb; replace HB := Aside0.mk (below_step (zw3_ HB GE328 GE345 GE356) hb); (try clear hb); (try clear ho0); (try clear ho1)) | ((with_reducible refine gate_dst (N := 10) rfl ?_); (try (refine gate_guard (by rfl) ?_; dsimp only)); refine box_event ?hg (N := 10) ?hd (cs := #[.slice none 0 0, .slice none 0 0]) (t := 27) ?hr ?_; (case hd => rfl); (case hg => rfl); (case hr => first | (go_simp; done) | (go_simp; rfl)); intro gb395 hg w98 hbox hb; replace HO324 := zy_ HO324 hb; replace HO327 := zy_ HO327 hb; replace HO340 := zy_ HO340 hb; replace HO343 := zy_ HO343 hb; replace HO351 := zy_ HO351 hb; replace HO354 := zy_ HO354 hb; replace HO390 := zy_ HO390 hb; replace HO393 := zy_ HO393 hb; have BK395 := Aside0.mk (hbox); have GW395 := Aside0.mk (zs_ hg (zw3_ HB GE328 GE345 GE356)); have GE395 := Aside0.mk (zs_ hg (zw3_ HB GE328 GE345 GE356)); replace HB := Aside0.mk (below_step (zw3_ HB GE328 GE345 GE356) hb); have NB328_395 := Aside0.mk (zn_ hg BK328); have NB395_328 := Aside0.mk (zm_ hg BK328); replace BK328 := za_ BK328 hb; have NB345_395 := Aside0.mk (zn_ hg BK345); have NB395_345 := Aside0.mk (zm_ hg BK345); replace BK345 := za_ BK345 hb; have NB356_395 := Aside0.mk (zn_ hg BK356); have NB395_356 := Aside0.mk (zm_ hg BK356); replace BK356 := za_ BK356 hb; clear hb hbox hg; obtain ⟨Ao99, co99, eo99⟩ := Kd.R_slice HO390.out; subst eo99; have hnb100 := NB395_328.out; have hnc100 := NB328_395.out; have hnb101 := NB395_345.out; have hnc101 := NB345_395.out; have hnb102 := NB395_356.out; have hnc102 := NB356_395.out; have hcz103_0 := zx_ (v := .slice none 0 0) BK395 0; have hcz103_1 := zx_ (v := .slice none 0 0) BK395 1; have hfz103_0 := blk_frozen BK395.out 0; have hfz103_1 := blk_frozen BK395.out 1; obtain ⟨Ao104, co104, eo104⟩ := Kd.R_slice HO393.out; subst eo104; have hcz105_0 := zx_ (v := .slice Ao35 y322.length co35) BK328 0; have hcz105_1 := zx_ (v := .slice Ao34 y325.length co34) BK328 1; have hfz105_0 := blk_frozen BK328.out 0; have hfz105_1 := blk_frozen BK328.out 1) | ((with_reducible refine gate_dst (N := 60) rfl ?_); (try (refine gate_guard (by rfl) ?_; dsimp only)); refine Kd.R_lit (Kd.int .i64) _ 3 ?hg (N := 60) ?hd (xs := ([4] : List Int)) (inner := [.int .i64 4]) (ok := fun _ => True) (okp := fun _ => True) ?hr ?hp (fun _ hk => hk) trivial (Below.refl _ _) (Nat.le_refl _) (by simp) ?_; (case hd => rfl); (case hg => rfl); (case hr => first | (go_simp; done) | (go_simp; rfl)); (case hp => exact (Reps.one (show Kd.M (Kd.int .i64) _ _ _ 4 [.int .i64 4] from rfl) (Reps.none _ _))); intro v397 w106 ho107 hb hg_ hnew_; clear hg_ hnew_; (first | rw [← Ny396.out] at ho107 | (simp only [Int.reduceToNat] at ho107; rw [← Ny396.out] at ho107)); replace HO327 := Aside0.mk (Kd.R_below (zr_ ((zf_ HO327 BK395 (.slice Ao99 t388.length co99) (.slice Ao104 t391.length co104)))) hb); replace HO343 := Aside0.mk (Kd.R_below (zr_ ((zf_ HO343 BK395 (.slice Ao99 t388.length co99) (.slice Ao104 t391.length co104)))) hb); replace HO354 := Aside0.mk (Kd.R_below (zr_ ((zf_ HO354 BK395 (.slice Ao99 t388.length co99) (.slice Ao104 t391.length co104)))) hb); have HO398 := Aside0.mk (Kd.R_lower (Kd.R_new' (Kd.R_new' (Kd.R_new' ho107 (Kd.R_lt (zr_ ((zf_ HO324 BK395 (.slice Ao99 t388.length co99) (.slice Ao104 t391.length co104)))))) (Kd.R_lt (zr_ ((zf_ HO340 BK395 (.slice Ao99 t388.length co99) (.slice Ao104 t391.length co104)))))) (Kd.R_lt (zr_ ((zf_ HO351 BK395 (.slice Ao99 t388.length co99) (.slice Ao104 t391.length co104)))))) (below_size (zw4_ HB GE328 GE345 GE356 GE395))); replace HO324 := Aside0.mk (Kd.R_elder' (zr_ ((zf_ HO324 BK395 (.slice Ao99 t388.length co99) (.slice Ao104 t391.length co104)))) (Kd.R_base ho107) hb); replace HO340 := Aside0.mk (Kd.R_elder' (zr_ ((zf_ HO340 BK395 (.slice Ao99 t388.length co99) (.slice Ao104 t391.length co104)))) (Kd.R_base ho107) hb); replace HO351 := Aside0.mk (Kd.R_elder' (zr_ ((zf_ HO351 BK395 (.slice Ao99 t388.length co99) (.slice Ao104 t391.length co104)))) (Kd.R_base ho107) hb); replace BK328 := Aside0.mk (blk_below (g := gb328) (o := .cells #[.slice Ao35 y322.length co35, .slice Ao34 y325.length co34] 27 (0, 0)) (zv1_ BK328 NB328_395) hb); replace BK345 := Aside0.mk (blk_below (g := gb345) (o := .cells #[.slice Ao49 t338.length co49, .slice Ao51 t341.length co51] 27 (0, 0)) (zv1_ BK345 NB345_395) hb); replace BK356 := Aside0.mk (blk_below (g := gb356) (o := .cells #[.slice Ao60 t349.length co60, .slice Ao64 t352.length co64] 27 (0, 0)) (zv1_ BK356 NB356_395) hb); replace BK395 := Aside0.mk (blk_below (g := gb395) (o := .cells #[.slice Ao99 t388.length co99, .slice Ao104 t391.length co104] 27 (0, 0)) (zo2_ BK395) hb); replace HB := Aside0.mk (below_step (zw4_ HB GE328 GE345 GE356 GE395) hb); clear hb ho107; obtain ⟨Ao108, co108, eo108⟩ := Kd.R_slice HO398.out; subst eo108) | ((with_reducible refine gate_callee (f := 20) rfl ?_); refine zg_ (some 61) Try.func20 #[.agg #[.slice Ao35 y322.length co35, .slice Ao34 y325.length co34], .slice Ao108 y396.length co108] (h := ?_); (with_reducible refine (tens_Reshape.calls k _ _ y322 _ _ y325 _ _ y396 t399 t402 t405 _ ?side1 ?side2 ?side3 ?side4 ?side5 ?side6 A10.out).mono ?_); (case side1 => exact zk_ ((Kd.R_reads' HO324.out).2.2)); (case side2 => exact (Kd.R_reads' HO324.out).2.1); (case side3 => exact zk_ ((Kd.R_reads' HO327.out).2.2)); (case side4 => exact (Kd.R_reads' HO327.out).2.1); (case side5 => exact zk_ ((Kd.R_reads' HO398.out).2.2)); (case side6 => exact (Kd.R_reads' HO398.out).2.1); rintro e w109 ⟨v400, v403, rfl, ho0, ho1, hb⟩; refine ⟨_, rfl, ?_⟩; have HO401 := Aside0.mk (Kd.R_lower (Kd.R_new' (Kd.R_new' (Kd.R_new' (Kd.R_new' ho0 (Kd.R_lt (zr_ HO324.out))) (Kd.R_lt (zr_ HO340.out))) (Kd.R_lt (zr_ HO351.out))) (Kd.R_lt (zr_ HO398.out))) (below_size (zw3_ HB GE328 GE345 GE356))); replace HO324 := ze_ HO324 ho0 hb; replace HO340 := ze_ HO340 ho0 hb; replace HO351 := ze_ HO351 ho0 hb; replace HO398 := ze_ HO398 ho0 hb; have HO404 := Aside0.mk (Kd.R_lower (Kd.R_new' (Kd.R_new' (Kd.R_new' ho1 (Kd.R_lt (zr_ HO327.out))) (Kd.R_lt (zr_ HO343.out))) (Kd.R_lt (zr_ HO354.out))) (below_size (zw3_ HB GE328 GE345 GE356))); replace HO327 := ze_ HO327 ho1 hb; replace HO343 := ze_ HO343 ho1 hb; replace HO354 := ze_ HO354 ho1 hb; replace BK328 := za_ BK328 hb; replace BK345 := za_ BK345 hb; replace BK356 := za_ BK356 hb; replace HB := Aside0.mk (below_step (zw3_ HB GE328 GE345 GE356) hb); (try clear hb); (try clear ho0); (try clear ho1)) | ((with_reducible refine gate_dst (N := 12) rfl ?_); (try (refine gate_guard (by rfl) ?_; dsimp only)); refine box_event ?hg (N := 12) ?hd (cs := #[.slice none 0 0, .slice none 0 0]) (t := 27) ?hr ?_; (case hd => rfl); (case hg => rfl); (case hr => first | (go_simp; done) | (go_simp; rfl)); intro gb406 hg w110 hbox hb; replace HO324 := zy_ HO324 hb; replace HO327 := zy_ HO327 hb; replace HO340 := zy_ HO340 hb; replace HO343 := zy_ HO343 hb; replace HO351 := zy_ HO351 hb; replace HO354 := zy_ HO354 hb; replace HO401 := zy_ HO401 hb; replace HO404 := zy_ HO404 hb; have BK406 := Aside0.mk (hbox); have GW406 := Aside0.mk (zs_ hg (zw3_ HB GE328 GE345 GE356)); have GE406 := Aside0.mk (zs_ hg (zw3_ HB GE328 GE345 GE356)); replace HB := Aside0.mk (below_step (zw3_ HB GE328 GE345 GE356) hb); have NB328_406 := Aside0.mk (zn_ hg BK328); have NB406_328 := Aside0.mk (zm_ hg BK328); replace BK328 := za_ BK328 hb; have NB345_406 := Aside0.mk (zn_ hg BK345); have NB406_345 := Aside0.mk (zm_ hg BK345); replace BK345 := za_ BK345 hb; have NB356_406 := Aside0.mk (zn_ hg BK356); have NB406_356 := Aside0.mk (zm_ hg BK356); replace BK356 := za_ BK356 hb; clear hb hbox hg; obtain ⟨Ao111, co111, eo111⟩ := Kd.R_slice HO401.out; subst eo111; have hnb112 := NB406_328.out; have hnc112 := NB328_406.out; have hnb113 := NB406_345.out; have hnc113 := NB345_406.out; have hnb114 := NB406_356.out; have hnc114 := NB356_406.out; have hcz115_0 := zx_ (v := .slice none 0 0) BK406 0; have hcz115_1 := zx_ (v := .slice none 0 0) BK406 1; have hfz115_0 := blk_frozen BK406.out 0; have hfz115_1 := blk_frozen BK406.out 1; obtain ⟨Ao116, co116, eo116⟩ := Kd.R_slice HO404.out; subst eo116; have hcz117_0 := zx_ (v := .slice Ao35 y322.length co35) BK328 0; have hcz117_1 := zx_ (v := .slice Ao34 y325.length co34) BK328 1; have hfz117_0 := blk_frozen BK328.out 0; have hfz117_1 := blk_frozen BK328.out 1) | ((with_reducible refine gate_dst (N := 66) rfl ?_); (try (refine gate_guard (by rfl) ?_; dsimp only)); refine Kd.R_lit (Kd.int .i64) _ 3 ?hg (N := 66) ?hd (xs := ([0, 0] : List Int)) (inner := [.int .i64 0, .int .i64 0]) (ok := fun _ => True) (okp := fun _ => True) ?hr ?hp (fun _ hk => hk) trivial (Below.refl _ _) (Nat.le_refl _) (by simp) ?_; (case hd => rfl); (case hg => rfl); (case hr => first | (go_simp; done) | (go_simp; rfl)); (case hp => exact (Reps.one (show Kd.M (Kd.int .i64) _ _ _ 0 [.int .i64 0] from rfl) (Reps.one (show Kd.M (Kd.int .i64) _ _ _ 0 [.int .i64 0] from rfl) (Reps.none _ _)))); intro v408 w118 ho119 hb hg_ hnew_; clear hg_ hnew_; (first | rw [← Ny407.out] at ho119 | (simp only [Int.reduceToNat] at ho119; rw [← Ny407.out] at ho119)); replace HO327 := Aside0.mk (Kd.R_below (zr_ ((zf_ HO327 BK406 (.slice Ao111 t399.length co111) (.slice Ao116 t402.length co116)))) hb); replace HO343 := Aside0.mk (Kd.R_below (zr_ ((zf_ HO343 BK406 (.slice Ao111 t399.length co111) (.slice Ao116 t402.length co116)))) hb); replace HO354 := Aside0.mk (Kd.R_below (zr_ ((zf_ HO354 BK406 (.slice Ao111 t399.length co111) (.slice Ao116 t402.length co116)))) hb); replace HO404 := Aside0.mk (Kd.R_below (zr_ ((zf_ HO404 BK406 (.slice Ao111 t399.length co111) (.slice Ao116 t402.length co116)))) hb); have HO409 := Aside0.mk (Kd.R_lower (Kd.R_new' (Kd.R_new' (Kd.R_new' (Kd.R_new' ho119 (Kd.R_lt (zr_ ((zf_ HO324 BK406 (.slice Ao111 t399.length co111) (.slice Ao116 t402.length co116)))))) (Kd.R_lt (zr_ ((zf_ HO340 BK406 (.slice Ao111 t399.length co111) (.slice Ao116 t402.length co116)))))) (Kd.R_lt (zr_ ((zf_ HO351 BK406 (.slice Ao111 t399.length co111) (.slice Ao116 t402.length co116)))))) (Kd.R_lt (zr_ ((zf_ HO401 BK406 (.slice Ao111 t399.length co111) (.slice Ao116 t402.length co116)))))) (below_size (zw4_ HB GE328 GE345 GE356 GE406))); replace HO324 := Aside0.mk (Kd.R_elder' (zr_ ((zf_ HO324 BK406 (.slice Ao111 t399.length co111) (.slice Ao116 t402.length co116)))) (Kd.R_base ho119) hb); replace HO340 := Aside0.mk (Kd.R_elder' (zr_ ((zf_ HO340 BK406 (.slice Ao111 t399.length co111) (.slice Ao116 t402.length co116)))) (Kd.R_base ho119) hb); replace HO351 := Aside0.mk (Kd.R_elder' (zr_ ((zf_ HO351 BK406 (.slice Ao111 t399.length co111) (.slice Ao116 t402.length co116)))) (Kd.R_base ho119) hb); replace HO401 := Aside0.mk (Kd.R_elder' (zr_ ((zf_ HO401 BK406 (.slice Ao111 t399.length co111) (.slice Ao116 t402.length co116)))) (Kd.R_base ho119) hb); replace BK328 := Aside0.mk (blk_below (g := gb328) (o := .cells #[.slice Ao35 y322.length co35, .slice Ao34 y325.length co34] 27 (0, 0)) (zv1_ BK328 NB328_406) hb); replace BK345 := Aside0.mk (blk_below (g := gb345) (o := .cells #[.slice Ao49 t338.length co49, .slice Ao51 t341.length co51] 27 (0, 0)) (zv1_ BK345 NB345_406) hb); replace BK356 := Aside0.mk (blk_below (g := gb356) (o := .cells #[.slice Ao60 t349.length co60, .slice Ao64 t352.length co64] 27 (0, 0)) (zv1_ BK356 NB356_406) hb); replace BK406 := Aside0.mk (blk_below (g := gb406) (o := .cells #[.slice Ao111 t399.length co111, .slice Ao116 t402.length co116] 27 (0, 0)) (zo2_ BK406) hb); replace HB := Aside0.mk (below_step (zw4_ HB GE328 GE345 GE356 GE406) hb); clear hb ho119; obtain ⟨Ao120, co120, eo120⟩ := Kd.R_slice HO409.out; subst eo120) | ((with_reducible refine gate_callee (f := 25) rfl ?_); refine zg_ (some 67) Try.func25 #[.agg #[.slice Ao35 y322.length co35, .slice Ao34 y325.length co34], .slice Ao120 y407.length co120] (h := ?_); (with_reducible refine (tens_Turn.calls k _ _ y322 _ _ y325 _ _ y407 t410 t413 t416 _ ?side1 ?side2 ?side3 ?side4 ?side5 ?side6 A11.out).mono ?_); (case side1 => exact zk_ ((Kd.R_reads' HO324.out).2.2)); (case side2 => exact (Kd.R_reads' HO324.out).2.1); (case side3 => exact zk_ ((Kd.R_reads' HO327.out).2.2)); (case side4 => exact (Kd.R_reads' HO327.out).2.1); (case side5 => exact zk_ ((Kd.R_reads' HO409.out).2.2)); (case side6 => exact (Kd.R_reads' HO409.out).2.1); rintro e w121 ⟨v411, v414, rfl, ho0, ho1, hb⟩; refine ⟨_, rfl, ?_⟩; have HO412 := Aside0.mk (Kd.R_lower (Kd.R_new' (Kd.R_new' (Kd.R_new' (Kd.R_new' (Kd.R_new' ho0 (Kd.R_lt (zr_ HO324.out))) (Kd.R_lt (zr_ HO340.out))) (Kd.R_lt (zr_ HO351.out))) (Kd.R_lt (zr_ HO401.out))) (Kd.R_lt (zr_ HO409.out))) (below_size (zw4_ HB GE328 GE345 GE356 GE406))); replace HO324 := ze_ HO324 ho0 hb; replace HO340 := ze_ HO340 ho0 hb; replace HO351 := ze_ HO351 ho0 hb; replace HO401 := ze_ HO401 ho0 hb; replace HO409 := ze_ HO409 ho0 hb; have HO415 := Aside0.mk (Kd.R_lower (Kd.R_new' (Kd.R_new' (Kd.R_new' (Kd.R_new' ho1 (Kd.R_lt (zr_ HO327.out))) (Kd.R_lt (zr_ HO343.out))) (Kd.R_lt (zr_ HO354.out))) (Kd.R_lt (zr_ HO404.out))) (below_size (zw4_ HB GE328 GE345 GE356 GE406))); replace HO327 := ze_ HO327 ho1 hb; replace HO343 := ze_ HO343 ho1 hb; replace HO354 := ze_ HO354 ho1 hb; replace HO404 := ze_ HO404 ho1 hb; replace BK328 := za_ BK328 hb; replace BK345 := za_ BK345 hb; replace BK356 := za_ BK356 hb; replace BK406 := za_ BK406 hb; replace HB := Aside0.mk (below_step (zw4_ HB GE328 GE345 GE356 GE406) hb); (try clear hb); (try clear ho0); (try clear ho1)) | ((with_reducible refine gate_dst (N := 14) rfl ?_); (try (refine gate_guard (by rfl) ?_; dsimp only)); refine box_event ?hg (N := 14) ?hd (cs := #[.slice none 0 0, .slice none 0 0]) (t := 27) ?hr ?_; (case hd => rfl); (case hg => rfl); (case hr => first | (go_simp; done) | (go_simp; rfl)); intro gb417 hg w122 hbox hb; replace HO324 := zy_ HO324 hb; replace HO327 := zy_ HO327 hb; replace HO340 := zy_ HO340 hb; replace HO343 := zy_ HO343 hb; replace HO351 := zy_ HO351 hb; replace HO354 := zy_ HO354 hb; replace HO401 := zy_ HO401 hb; replace HO404 := zy_ HO404 hb; replace HO412 := zy_ HO412 hb; replace HO415 := zy_ HO415 hb; have BK417 := Aside0.mk (hbox); have GW417 := Aside0.mk (zs_ hg (zw4_ HB GE328 GE345 GE356 GE406)); have GE417 := Aside0.mk (zs_ hg (zw4_ HB GE328 GE345 GE356 GE406)); replace HB := Aside0.mk (below_step (zw4_ HB GE328 GE345 GE356 GE406) hb); have NB328_417 := Aside0.mk (zn_ hg BK328); have NB417_328 := Aside0.mk (zm_ hg BK328); replace BK328 := za_ BK328 hb; have NB345_417 := Aside0.mk (zn_ hg BK345); have NB417_345 := Aside0.mk (zm_ hg BK345); replace BK345 := za_ BK345 hb; have NB356_417 := Aside0.mk (zn_ hg BK356); have NB417_356 := Aside0.mk (zm_ hg BK356); replace BK356 := za_ BK356 hb; have NB406_417 := Aside0.mk (zn_ hg BK406); have NB417_406 := Aside0.mk (zm_ hg BK406); replace BK406 := za_ BK406 hb; clear hb hbox hg; obtain ⟨Ao123, co123, eo123⟩ := Kd.R_slice HO412.out; subst eo123; have hnb124 := NB417_328.out; have hnc124 := NB328_417.out; have hnb125 := NB417_345.out; have hnc125 := NB345_417.out; have hnb126 := NB417_356.out; have hnc126 := NB356_417.out; have hnb127 := NB417_406.out; have hnc127 := NB406_417.out; have hcz128_0 := zx_ (v := .slice none 0 0) BK417 0; have hcz128_1 := zx_ (v := .slice none 0 0) BK417 1; have hfz128_0 := blk_frozen BK417.out 0; have hfz128_1 := blk_frozen BK417.out 1; obtain ⟨Ao129, co129, eo129⟩ := Kd.R_slice HO415.out; subst eo129; have hcz130_0 := zx_ (v := .slice Ao35 y322.length co35) BK328 0; have hcz130_1 := zx_ (v := .slice Ao34 y325.length co34) BK328 1; have hfz130_0 := blk_frozen BK328.out 0; have hfz130_1 := blk_frozen BK328.out 1) | ((with_reducible refine gate_dst (N := 72) rfl ?_); (try (refine gate_guard (by rfl) ?_; dsimp only)); refine Kd.R_lit (Kd.int .i64) _ 3 ?hg (N := 72) ?hd (xs := ([3] : List Int)) (inner := [.int .i64 3]) (ok := fun _ => True) (okp := fun _ => True) ?hr ?hp (fun _ hk => hk) trivial (Below.refl _ _) (Nat.le_refl _) (by simp) ?_; (case hd => rfl); (case hg => rfl); (case hr => first | (go_simp; done) | (go_simp; rfl)); (case hp => exact (Reps.one (show Kd.M (Kd.int .i64) _ _ _ 3 [.int .i64 3] from rfl) (Reps.none _ _))); intro v419 w131 ho132 hb hg_ hnew_; clear hg_ hnew_; (first | rw [← Ny418.out] at ho132 | (simp only [Int.reduceToNat] at ho132; rw [← Ny418.out] at ho132)); replace HO327 := Aside0.mk (Kd.R_below (zr_ ((zf_ HO327 BK417 (.slice Ao123 t410.length co123) (.slice Ao129 t413.length co129)))) hb); replace HO343 := Aside0.mk (Kd.R_below (zr_ ((zf_ HO343 BK417 (.slice Ao123 t410.length co123) (.slice Ao129 t413.length co129)))) hb); replace HO354 := Aside0.mk (Kd.R_below (zr_ ((zf_ HO354 BK417 (.slice Ao123 t410.length co123) (.slice Ao129 t413.length co129)))) hb); replace HO404 := Aside0.mk (Kd.R_below (zr_ ((zf_ HO404 BK417 (.slice Ao123 t410.length co123) (.slice Ao129 t413.length co129)))) hb); have HO420 := Aside0.mk (Kd.R_lower (Kd.R_new' (Kd.R_new' (Kd.R_new' (Kd.R_new' ho132 (Kd.R_lt (zr_ ((zf_ HO324 BK417 (.slice Ao123 t410.length co123) (.slice Ao129 t413.length co129)))))) (Kd.R_lt (zr_ ((zf_ HO340 BK417 (.slice Ao123 t410.length co123) (.slice Ao129 t413.length co129)))))) (Kd.R_lt (zr_ ((zf_ HO351 BK417 (.slice Ao123 t410.length co123) (.slice Ao129 t413.length co129)))))) (Kd.R_lt (zr_ ((zf_ HO401 BK417 (.slice Ao123 t410.length co123) (.slice Ao129 t413.length co129)))))) (below_size (zw5_ HB GE328 GE345 GE356 GE406 GE417))); replace HO324 := Aside0.mk (Kd.R_elder' (zr_ ((zf_ HO324 BK417 (.slice Ao123 t410.length co123) (.slice Ao129 t413.length co129)))) (Kd.R_base ho132) hb); replace HO340 := Aside0.mk (Kd.R_elder' (zr_ ((zf_ HO340 BK417 (.slice Ao123 t410.length co123) (.slice Ao129 t413.length co129)))) (Kd.R_base ho132) hb); replace HO351 := Aside0.mk (Kd.R_elder' (zr_ ((zf_ HO351 BK417 (.slice Ao123 t410.length co123) (.slice Ao129 t413.length co129)))) (Kd.R_base ho132) hb); replace HO401 := Aside0.mk (Kd.R_elder' (zr_ ((zf_ HO401 BK417 (.slice Ao123 t410.length co123) (.slice Ao129 t413.length co129)))) (Kd.R_base ho132) hb); replace BK328 := Aside0.mk (blk_below (g := gb328) (o := .cells #[.slice Ao35 y322.length co35, .slice Ao34 y325.length co34] 27 (0, 0)) (zv1_ BK328 NB328_417) hb); replace BK345 := Aside0.mk (blk_below (g := gb345) (o := .cells #[.slice Ao49 t338.length co49, .slice Ao51 t341.length co51] 27 (0, 0)) (zv1_ BK345 NB345_417) hb); replace BK356 := Aside0.mk (blk_below (g := gb356) (o := .cells #[.slice Ao60 t349.length co60, .slice Ao64 t352.length co64] 27 (0, 0)) (zv1_ BK356 NB356_417) hb); replace BK406 := Aside0.mk (blk_below (g := gb406) (o := .cells #[.slice Ao111 t399.length co111, .slice Ao116 t402.length co116] 27 (0, 0)) (zv1_ BK406 NB406_417) hb); replace BK417 := Aside0.mk (blk_below (g := gb417) (o := .cells #[.slice Ao123 t410.length co123, .slice Ao129 t413.length co129] 27 (0, 0)) (zo2_ BK417) hb); replace HB := Aside0.mk (below_step (zw5_ HB GE328 GE345 GE356 GE406 GE417) hb); clear hb ho132; obtain ⟨Ao133, co133, eo133⟩ := Kd.R_slice HO420.out; subst eo133) | ((with_reducible refine gate_callee (f := 26) rfl ?_); refine zg_ (some 73) Try.func26 #[.agg #[.slice Ao35 y322.length co35, .slice Ao34 y325.length co34], .slice Ao133 y418.length co133] (h := ?_); (with_reducible refine (tens_Fold.calls k _ _ y322 _ _ y325 _ _ y418 t421 t424 t427 _ ?side1 ?side2 ?side3 ?side4 ?side5 ?side6 A12.out).mono ?_); (case side1 => exact zk_ ((Kd.R_reads' HO324.out).2.2)); (case side2 => exact (Kd.R_reads' HO324.out).2.1); (case side3 => exact zk_ ((Kd.R_reads' HO327.out).2.2)); (case side4 => exact (Kd.R_reads' HO327.out).2.1); (case side5 => exact zk_ ((Kd.R_reads' HO420.out).2.2)); (case side6 => exact (Kd.R_reads' HO420.out).2.1); rintro e w134 ⟨v422, v425, rfl, ho0, ho1, hb⟩; refine ⟨_, rfl, ?_⟩; have HO423 := Aside0.mk (Kd.R_lower (Kd.R_new' (Kd.R_new' (Kd.R_new' (Kd.R_new' (Kd.R_new' ho0 (Kd.R_lt (zr_ HO324.out))) (Kd.R_lt (zr_ HO340.out))) (Kd.R_lt (zr_ HO351.out))) (Kd.R_lt (zr_ HO401.out))) (Kd.R_lt (zr_ HO420.out))) (below_size (zw3_ HB GE345 GE356 GE406))); replace HO324 := ze_ HO324 ho0 hb; replace HO340 := ze_ HO340 ho0 hb; replace HO351 := ze_ HO351 ho0 hb; replace HO401 := ze_ HO401 ho0 hb; replace HO420 := ze_ HO420 ho0 hb; have HO426 := Aside0.mk (Kd.R_lower (Kd.R_new' (Kd.R_new' (Kd.R_new' (Kd.R_new' ho1 (Kd.R_lt (zr_ HO327.out))) (Kd.R_lt (zr_ HO343.out))) (Kd.R_lt (zr_ HO354.out))) (Kd.R_lt (zr_ HO404.out))) (below_size (zw3_ HB GE345 GE356 GE406))); replace HO327 := ze_ HO327 ho1 hb; replace HO343 := ze_ HO343 ho1 hb; replace HO354 := ze_ HO354 ho1 hb; replace HO404 := ze_ HO404 ho1 hb; replace BK345 := za_ BK345 hb; replace BK356 := za_ BK356 hb; replace BK406 := za_ BK406 hb; replace HB := Aside0.mk (below_step (zw3_ HB GE345 GE356 GE406) hb); (try clear hb); (try clear ho0); (try clear ho1)) | ((with_reducible refine gate_dst (N := 16) rfl ?_); (try (refine gate_guard (by rfl) ?_; dsimp only)); refine box_event ?hg (N := 16) ?hd (cs := #[.slice none 0 0, .slice none 0 0]) (t := 27) ?hr ?_; (case hd => rfl); (case hg => rfl); (case hr => first | (go_simp; done) | (go_simp; rfl)); intro gb428 hg w135 hbox hb; replace HO340 := zy_ HO340 hb; replace HO343 := zy_ HO343 hb; replace HO351 := zy_ HO351 hb; replace HO354 := zy_ HO354 hb; replace HO401 := zy_ HO401 hb; replace HO404 := zy_ HO404 hb; replace HO423 := zy_ HO423 hb; replace HO426 := zy_ HO426 hb; have BK428 := Aside0.mk (hbox); have GW428 := Aside0.mk (zs_ hg (zw3_ HB GE345 GE356 GE406)); have GE428 := Aside0.mk (zs_ hg (zw3_ HB GE345 GE356 GE406)); replace HB := Aside0.mk (below_step (zw3_ HB GE345 GE356 GE406) hb); have NB345_428 := Aside0.mk (zn_ hg BK345); have NB428_345 := Aside0.mk (zm_ hg BK345); replace BK345 := za_ BK345 hb; have NB356_428 := Aside0.mk (zn_ hg BK356); have NB428_356 := Aside0.mk (zm_ hg BK356); replace BK356 := za_ BK356 hb; have NB406_428 := Aside0.mk (zn_ hg BK406); have NB428_406 := Aside0.mk (zm_ hg BK406); replace BK406 := za_ BK406 hb; clear hb hbox hg; obtain ⟨Ao136, co136, eo136⟩ := Kd.R_slice HO423.out; subst eo136; have hnb137 := NB428_345.out; have hnc137 := NB345_428.out; have hnb138 := NB428_356.out; have hnc138 := NB356_428.out; have hnb139 := NB428_406.out; have hnc139 := NB406_428.out; have hcz140_0 := zx_ (v := .slice none 0 0) BK428 0; have hcz140_1 := zx_ (v := .slice none 0 0) BK428 1; have hfz140_0 := blk_frozen BK428.out 0; have hfz140_1 := blk_frozen BK428.out 1; obtain ⟨Ao141, co141, eo141⟩ := Kd.R_slice HO426.out; subst eo141) | ((with_reducible refine gate_dst (N := 77) rfl ?_); (try (refine gate_guard (by rfl) ?_; dsimp only)); refine Kd.R_lit (Kd.int .i64) _ 3 ?hg (N := 77) ?hd (xs := ([0] : List Int)) (inner := [.int .i64 0]) (ok := fun _ => True) (okp := fun _ => True) ?hr ?hp (fun _ hk => hk) trivial (Below.refl _ _) (Nat.le_refl _) (by simp) ?_; (case hd => rfl); (case hg => rfl); (case hr => first | (go_simp; done) | (go_simp; rfl)); (case hp => exact (Reps.one (show Kd.M (Kd.int .i64) _ _ _ 0 [.int .i64 0] from rfl) (Reps.none _ _))); intro v430 w142 ho143 hb hg_ hnew_; clear hg_ hnew_; (first | rw [← Ny429.out] at ho143 | (simp only [Int.reduceToNat] at ho143; rw [← Ny429.out] at ho143)); replace HO343 := Aside0.mk (Kd.R_below (zr_ ((zf_ HO343 BK428 (.slice Ao136 t421.length co136) (.slice Ao141 t424.length co141)))) hb); replace HO354 := Aside0.mk (Kd.R_below (zr_ ((zf_ HO354 BK428 (.slice Ao136 t421.length co136) (.slice Ao141 t424.length co141)))) hb); replace HO404 := Aside0.mk (Kd.R_below (zr_ ((zf_ HO404 BK428 (.slice Ao136 t421.length co136) (.slice Ao141 t424.length co141)))) hb); have HO431 := Aside0.mk (Kd.R_lower (Kd.R_new' (Kd.R_new' (Kd.R_new' ho143 (Kd.R_lt (zr_ ((zf_ HO340 BK428 (.slice Ao136 t421.length co136) (.slice Ao141 t424.length co141)))))) (Kd.R_lt (zr_ ((zf_ HO351 BK428 (.slice Ao136 t421.length co136) (.slice Ao141 t424.length co141)))))) (Kd.R_lt (zr_ ((zf_ HO401 BK428 (.slice Ao136 t421.length co136) (.slice Ao141 t424.length co141)))))) (below_size (zw4_ HB GE345 GE356 GE406 GE428))); replace HO340 := Aside0.mk (Kd.R_elder' (zr_ ((zf_ HO340 BK428 (.slice Ao136 t421.length co136) (.slice Ao141 t424.length co141)))) (Kd.R_base ho143) hb); replace HO351 := Aside0.mk (Kd.R_elder' (zr_ ((zf_ HO351 BK428 (.slice Ao136 t421.length co136) (.slice Ao141 t424.length co141)))) (Kd.R_base ho143) hb); replace HO401 := Aside0.mk (Kd.R_elder' (zr_ ((zf_ HO401 BK428 (.slice Ao136 t421.length co136) (.slice Ao141 t424.length co141)))) (Kd.R_base ho143) hb); replace BK345 := Aside0.mk (blk_below (g := gb345) (o := .cells #[.slice Ao49 t338.length co49, .slice Ao51 t341.length co51] 27 (0, 0)) (zv1_ BK345 NB345_428) hb); replace BK356 := Aside0.mk (blk_below (g := gb356) (o := .cells #[.slice Ao60 t349.length co60, .slice Ao64 t352.length co64] 27 (0, 0)) (zv1_ BK356 NB356_428) hb); replace BK406 := Aside0.mk (blk_below (g := gb406) (o := .cells #[.slice Ao111 t399.length co111, .slice Ao116 t402.length co116] 27 (0, 0)) (zv1_ BK406 NB406_428) hb); replace BK428 := Aside0.mk (blk_below (g := gb428) (o := .cells #[.slice Ao136 t421.length co136, .slice Ao141 t424.length co141] 27 (0, 0)) (zo2_ BK428) hb); replace HB := Aside0.mk (below_step (zw4_ HB GE345 GE356 GE406 GE428) hb); clear hb ho143; obtain ⟨Ao144, co144, eo144⟩ := Kd.R_slice HO431.out; subst eo144) | ((with_reducible refine gate_callee (f := 12) rfl ?_); refine zg_ (some 78) Try.func12 #[.slice Ao144 y429.length co144, .int .i64 1] (h := ?_); (with_reducible refine (tens_New.calls k _ _ y429 1 t432 t435 t438 _ ?side1 ?side2 A13.out).mono ?_); (case side1 => exact zk_ ((Kd.R_reads' HO431.out).2.2)); (case side2 => exact (Kd.R_reads' HO431.out).2.1); rintro e w145 ⟨v433, v436, rfl, ho0, ho1, hb⟩; refine ⟨_, rfl, ?_⟩; have HO434 := Aside0.mk (Kd.R_lower (Kd.R_new' (Kd.R_new' (Kd.R_new' (Kd.R_new' ho0 (Kd.R_lt (zr_ HO340.out))) (Kd.R_lt (zr_ HO351.out))) (Kd.R_lt (zr_ HO401.out))) (Kd.R_lt (zr_ HO431.out))) (below_size (zw3_ HB GE345 GE356 GE406))); replace HO340 := ze_ HO340 ho0 hb; replace HO351 := ze_ HO351 ho0 hb; replace HO401 := ze_ HO401 ho0 hb; replace HO431 := ze_ HO431 ho0 hb; have HO437 := Aside0.mk (Kd.R_lower (Kd.R_new' (Kd.R_new' (Kd.R_new' ho1 (Kd.R_lt (zr_ HO343.out))) (Kd.R_lt (zr_ HO354.out))) (Kd.R_lt (zr_ HO404.out))) (below_size (zw3_ HB GE345 GE356 GE406))); replace HO343 := ze_ HO343 ho1 hb; replace HO354 := ze_ HO354 ho1 hb; replace HO404 := ze_ HO404 ho1 hb; replace BK345 := za_ BK345 hb; replace BK356 := za_ BK356 hb; replace BK406 := za_ BK406 hb; replace HB := Aside0.mk (below_step (zw3_ HB GE345 GE356 GE406) hb); (try clear hb); (try clear ho0); (try clear ho1)) | ((with_reducible refine gate_dst (N := 18) rfl ?_); (try (refine gate_guard (by rfl) ?_; dsimp only)); refine box_event ?hg (N := 18) ?hd (cs := #[.slice none 0 0, .slice none 0 0]) (t := 27) ?hr ?_; (case hd => rfl); (case hg => rfl); (case hr => first | (go_simp; done) | (go_simp; rfl)); intro gb439 hg w146 hbox hb; replace HO340 := zy_ HO340 hb; replace HO343 := zy_ HO343 hb; replace HO351 := zy_ HO351 hb; replace HO354 := zy_ HO354 hb; replace HO401 := zy_ HO401 hb; replace HO404 := zy_ HO404 hb; replace HO434 := zy_ HO434 hb; replace HO437 := zy_ HO437 hb; have BK439 := Aside0.mk (hbox); have GW439 := Aside0.mk (zs_ hg (zw3_ HB GE345 GE356 GE406)); have GE439 := Aside0.mk (zs_ hg (zw3_ HB GE345 GE356 GE406)); replace HB := Aside0.mk (below_step (zw3_ HB GE345 GE356 GE406) hb); have NB345_439 := Aside0.mk (zn_ hg BK345); have NB439_345 := Aside0.mk (zm_ hg BK345); replace BK345 := za_ BK345 hb; have NB356_439 := Aside0.mk (zn_ hg BK356); have NB439_356 := Aside0.mk (zm_ hg BK356); replace BK356 := za_ BK356 hb; have NB406_439 := Aside0.mk (zn_ hg BK406); have NB439_406 := Aside0.mk (zm_ hg BK406); replace BK406 := za_ BK406 hb; clear hb hbox hg; obtain ⟨Ao147, co147, eo147⟩ := Kd.R_slice HO434.out; subst eo147; have hnb148 := NB439_345.out; have hnc148 := NB345_439.out; have hnb149 := NB439_356.out; have hnc149 := NB356_439.out; have hnb150 := NB439_406.out; have hnc150 := NB406_439.out; have hcz151_0 := zx_ (v := .slice none 0 0) BK439 0; have hcz151_1 := zx_ (v := .slice none 0 0) BK439 1; have hfz151_0 := blk_frozen BK439.out 0; have hfz151_1 := blk_frozen BK439.out 1; obtain ⟨Ao152, co152, eo152⟩ := Kd.R_slice HO437.out; subst eo152))
 have n0_ : Aside0 (Kd.R (Kd.int .i64) 3 ((w146.setCell ⟨gb439, 0, none⟩ (.slice Ao147 t432.length co147)).setCell ⟨gb439, 1, none⟩ (.slice Ao152 t435.length co152)) w.heap.size (fun k_ => some k_ ≠ (.slice Ao60 t349.length co60 : Value).ownBlock ∧ some k_ ≠ (.slice Ao111 t399.length co111 : Value).ownBlock) (.slice Ao49 t338.length co49) t338) := ⟨zr_ (Kd.R_mono (Kd.R_far (p := ⟨gb439, 1, none⟩) (Kd.R_far (p := ⟨gb439, 0, none⟩) (Kd.R_types HO340.out BK439.out (by decide)) (fun _ hk => hk.2) (.slice Ao147 t432.length co147)) (fun _ hk => hk.2) (.slice Ao152 t435.length co152)) (fun _ hk => ⟨hk.1.1.1.1.1.1.1.1.1.1.1.1.1.2.1, hk.1.1.1.1.1.1.1.2⟩))⟩
 have n1_ : Aside0 (Kd.R (Kd.int .i64) 23 ((w146.setCell ⟨gb439, 0, none⟩ (.slice Ao147 t432.length co147)).setCell ⟨gb439, 1, none⟩ (.slice Ao152 t435.length co152)) w.heap.size (fun k_ => some k_ ≠ (.slice Ao64 t352.length co64 : Value).ownBlock ∧ some k_ ≠ (.slice Ao116 t402.length co116 : Value).ownBlock) (.slice Ao51 t341.length co51) t341) := ⟨zr_ (Kd.R_mono (Kd.R_far (p := ⟨gb439, 1, none⟩) (Kd.R_far (p := ⟨gb439, 0, none⟩) (Kd.R_types HO343.out BK439.out (by decide)) (fun _ hk => hk.2) (.slice Ao147 t432.length co147)) (fun _ hk => hk.2) (.slice Ao152 t435.length co152)) (fun _ hk => ⟨hk.1.1.1.1.1.1.1.2.1, hk.1.1.1.1.2⟩))⟩
 have n2_ : Aside0 (Kd.R (Kd.int .i64) 3 ((w146.setCell ⟨gb439, 0, none⟩ (.slice Ao147 t432.length co147)).setCell ⟨gb439, 1, none⟩ (.slice Ao152 t435.length co152)) w.heap.size (fun k_ => some k_ ≠ (.slice Ao49 t338.length co49 : Value).ownBlock ∧ some k_ ≠ (.slice Ao111 t399.length co111 : Value).ownBlock) (.slice Ao60 t349.length co60) t349) := ⟨zr_ (Kd.R_mono (Kd.R_far (p := ⟨gb439, 1, none⟩) (Kd.R_far (p := ⟨gb439, 0, none⟩) (Kd.R_types HO351.out BK439.out (by decide)) (fun _ hk => hk.2) (.slice Ao147 t432.length co147)) (fun _ hk => hk.2) (.slice Ao152 t435.length co152)) (fun _ hk => ⟨hk.1.1.1.1.1.1.1.1.1.1.1.1.1.2.1, hk.1.1.1.1.1.1.1.2⟩))⟩
 have n3_ : Aside0 (Kd.R (Kd.int .i64) 23 ((w146.setCell ⟨gb439, 0, none⟩ (.slice Ao147 t432.length co147)).setCell ⟨gb439, 1, none⟩ (.slice Ao152 t435.length co152)) w.heap.size (fun k_ => some k_ ≠ (.slice Ao51 t341.length co51 : Value).ownBlock ∧ some k_ ≠ (.slice Ao116 t402.length co116 : Value).ownBlock) (.slice Ao64 t352.length co64) t352) := ⟨zr_ (Kd.R_mono (Kd.R_far (p := ⟨gb439, 1, none⟩) (Kd.R_far (p := ⟨gb439, 0, none⟩) (Kd.R_types HO354.out BK439.out (by decide)) (fun _ hk => hk.2) (.slice Ao147 t432.length co147)) (fun _ hk => hk.2) (.slice Ao152 t435.length co152)) (fun _ hk => ⟨hk.1.1.1.1.1.1.1.2.1, hk.1.1.1.1.2⟩))⟩
 have n4_ : Aside0 (Kd.R (Kd.int .i64) 3 ((w146.setCell ⟨gb439, 0, none⟩ (.slice Ao147 t432.length co147)).setCell ⟨gb439, 1, none⟩ (.slice Ao152 t435.length co152)) w.heap.size (fun k_ => some k_ ≠ (.slice Ao49 t338.length co49 : Value).ownBlock ∧ some k_ ≠ (.slice Ao60 t349.length co60 : Value).ownBlock) (.slice Ao111 t399.length co111) t399) := ⟨zr_ (Kd.R_mono (Kd.R_far (p := ⟨gb439, 1, none⟩) (Kd.R_far (p := ⟨gb439, 0, none⟩) (Kd.R_types HO401.out BK439.out (by decide)) (fun _ hk => hk.2) (.slice Ao147 t432.length co147)) (fun _ hk => hk.2) (.slice Ao152 t435.length co152)) (fun _ hk => ⟨hk.1.1.1.1.1.1.1.1.1.2, hk.1.1.1.1.1.1.1.1.2⟩))⟩
 have n5_ : Aside0 (Kd.R (Kd.int .i64) 23 ((w146.setCell ⟨gb439, 0, none⟩ (.slice Ao147 t432.length co147)).setCell ⟨gb439, 1, none⟩ (.slice Ao152 t435.length co152)) w.heap.size (fun k_ => some k_ ≠ (.slice Ao51 t341.length co51 : Value).ownBlock ∧ some k_ ≠ (.slice Ao64 t352.length co64 : Value).ownBlock) (.slice Ao116 t402.length co116) t402) := ⟨zr_ (Kd.R_mono (Kd.R_far (p := ⟨gb439, 1, none⟩) (Kd.R_far (p := ⟨gb439, 0, none⟩) (Kd.R_types HO404.out BK439.out (by decide)) (fun _ hk => hk.2) (.slice Ao147 t432.length co147)) (fun _ hk => hk.2) (.slice Ao152 t435.length co152)) (fun _ hk => ⟨hk.1.1.1.1.1.2, hk.1.1.1.1.2⟩))⟩
 have n6_ : Aside0 (((w146.setCell ⟨gb439, 0, none⟩ (.slice Ao147 t432.length co147)).setCell ⟨gb439, 1, none⟩ (.slice Ao152 t435.length co152)).heap[gb345]? = some (.cells #[.slice Ao49 t338.length co49, .slice Ao51 t341.length co51] 27 (0, 0))) := ⟨zv1_ BK345 NB345_439⟩
 have n7_ : Aside0 (((w146.setCell ⟨gb439, 0, none⟩ (.slice Ao147 t432.length co147)).setCell ⟨gb439, 1, none⟩ (.slice Ao152 t435.length co152)).heap[gb356]? = some (.cells #[.slice Ao60 t349.length co60, .slice Ao64 t352.length co64] 27 (0, 0))) := ⟨zv1_ BK356 NB356_439⟩
 have n8_ : Aside0 (((w146.setCell ⟨gb439, 0, none⟩ (.slice Ao147 t432.length co147)).setCell ⟨gb439, 1, none⟩ (.slice Ao152 t435.length co152)).heap[gb406]? = some (.cells #[.slice Ao111 t399.length co111, .slice Ao116 t402.length co116] 27 (0, 0))) := ⟨zv1_ BK406 NB406_439⟩
 have n9_ : Aside0 (((w146.setCell ⟨gb439, 0, none⟩ (.slice Ao147 t432.length co147)).setCell ⟨gb439, 1, none⟩ (.slice Ao152 t435.length co152)).heap[gb439]? = some (.cells #[.slice Ao147 t432.length co147, .slice Ao152 t435.length co152] 27 (0, 0))) := ⟨zo2_ BK439⟩
 have n10_ : Aside0 (Below w.heap.size w ((w146.setCell ⟨gb439, 0, none⟩ (.slice Ao147 t432.length co147)).setCell ⟨gb439, 1, none⟩ (.slice Ao152 t435.length co152))) := ⟨zw4_ HB GE345 GE356 GE406 GE439⟩
 (try clear HO340)
 (try clear HO343)
 (try clear HO351)
 (try clear HO354)
 (try clear HO401)
 (try clear HO404)
 (try clear BK345)
 (try clear BK356)
 (try clear BK406)
 (try clear BK439)
 (try clear HB)
 generalize ((w146.setCell ⟨gb439, 0, none⟩ (.slice Ao147 t432.length co147)).setCell ⟨gb439, 1, none⟩ (.slice Ao152 t435.length co152)) = w153 at n0_ n1_ n2_ n3_ n4_ n5_ n6_ n7_ n8_ n9_ n10_ ⊢
 have HO340 := n0_
 have HO343 := n1_
 have HO351 := n2_
 have HO354 := n3_
 have HO401 := n4_
 have HO404 := n5_
 have BK345 := n6_
 have BK356 := n7_
 have BK406 := n8_
 have BK439 := n9_
 have HB := n10_
 clear n0_ n1_ n2_ n3_ n4_ n5_ n6_ n7_ n8_ n9_ n10_
 replace HO340 := Aside0.mk (Kd.R_drew HO340.out)
 replace HO343 := Aside0.mk (Kd.R_drew HO343.out)
 replace HO351 := Aside0.mk (Kd.R_drew HO351.out)
 replace HO354 := Aside0.mk (Kd.R_drew HO354.out)
 replace HO401 := Aside0.mk (Kd.R_drew HO401.out)
 replace HO404 := Aside0.mk (Kd.R_drew HO404.out)
 replace BK345 := Aside0.mk (blk_drew BK345.out)
 replace BK356 := Aside0.mk (blk_drew BK356.out)
 replace BK406 := Aside0.mk (blk_drew BK406.out)
 replace BK439 := Aside0.mk (blk_drew BK439.out)
 replace HB := Aside0.mk (below_drew1 HB.out)
 refine start_ (n := 55) (S := fun w' => w'.cell? ⟨gb345, 0, none⟩ = some (.slice Ao49 t338.length co49) ∧ w'.cell? ⟨gb345, 1, none⟩ = some (.slice Ao51 t341.length co51) ∧ w'.cell? ⟨gb356, 0, none⟩ = some (.slice Ao60 t349.length co60) ∧ w'.cell? ⟨gb356, 1, none⟩ = some (.slice Ao64 t352.length co64) ∧ w'.cell? ⟨gb406, 0, none⟩ = some (.slice Ao111 t399.length co111) ∧ w'.cell? ⟨gb406, 1, none⟩ = some (.slice Ao116 t402.length co116)) (ds := []) #[false, false, false, false, false, false, false, false, false, false, false, false, false, false, false, false, false, false, false, false, false, false, false, false, false, false, false, false, false, false, false, false, false, false, false, false, false, false, false, false, false, false, false, false, false, false, false, false, false, false, false, false, false, false, false] (by kernel_rfl) rfl rfl ⟨(blk_cell BK345.out 0).trans rfl, (blk_cell BK345.out 1).trans rfl, (blk_cell BK356.out 0).trans rfl, (blk_cell BK356.out 1).trans rfl, (blk_cell BK406.out 0).trans rfl, (blk_cell BK406.out 1).trans rfl⟩ (fun hHeld => ?_); refine with_tabW carousellaw6_TensKnown.tab13 carousellaw6_TensKnown.bits13 (fun HT_ HW_ => ?_)
 generalize w153.drew = w154 at HO340 HO343 HO351 HO354 HO401 HO404 BK345 BK356 BK406 BK439 HB hHeld ⊢
 refine yp_ ?_ 0 81
 refine yp_ ?_ 1 82
 refine yp_ ?_ 2 83
 refine yt6_ ?_ 3 84
 refine join_ (σ := Value × Value × Value × Value) 38 #[true, true, true, true, true, true, true, true, true, true, true, true, true, true, true, true, true, false, false, false, false, false, false, false, false, false, false, false, false, false, false, false, false, false, false, false, false, false, false, false, false, false, false, false, false, false, false, false, false, false, false, false, false, false, false] (fun s_ => [(85, s_.1), (86, s_.2.1), (88, .bool true), (96, s_.2.2.1), (97, s_.2.2.2), (87, .agg #[s_.1, s_.2.1]), (89, .bool true), (90, .bool true), (91, .int .i64 t355), (92, .bool true), (93, .bool true), (94, .bool true), (95, .agg #[.slice Ao60 t349.length co60, .slice Ao64 t352.length co64])]) (fun s_ w' => (w'.cell? ⟨gb345, 0, none⟩ = some (.slice Ao49 t338.length co49) ∧ w'.cell? ⟨gb345, 1, none⟩ = some (.slice Ao51 t341.length co51) ∧ w'.cell? ⟨gb356, 0, none⟩ = some (.slice Ao60 t349.length co60) ∧ w'.cell? ⟨gb356, 1, none⟩ = some (.slice Ao64 t352.length co64) ∧ w'.cell? ⟨gb406, 0, none⟩ = some (.slice Ao111 t399.length co111) ∧ w'.cell? ⟨gb406, 1, none⟩ = some (.slice Ao116 t402.length co116)) ∧ (Kd.R (Kd.int .i64) 3 w' w.heap.size (fun k_ => some k_ ≠ (.slice Ao60 t349.length co60 : Value).ownBlock ∧ some k_ ≠ (.slice Ao111 t399.length co111 : Value).ownBlock ∧ some k_ ≠ (s_.1 : Value).ownBlock ∧ some k_ ≠ (s_.2.2.1 : Value).ownBlock) (.slice Ao49 t338.length co49) t338) ∧ (Kd.R (Kd.int .i64) 23 w' w.heap.size (fun k_ => some k_ ≠ (.slice Ao64 t352.length co64 : Value).ownBlock ∧ some k_ ≠ (.slice Ao116 t402.length co116 : Value).ownBlock ∧ some k_ ≠ (s_.2.1 : Value).ownBlock ∧ some k_ ≠ (s_.2.2.2 : Value).ownBlock) (.slice Ao51 t341.length co51) t341) ∧ (Kd.R (Kd.int .i64) 3 w' w.heap.size (fun k_ => some k_ ≠ (.slice Ao49 t338.length co49 : Value).ownBlock ∧ some k_ ≠ (.slice Ao111 t399.length co111 : Value).ownBlock ∧ some k_ ≠ (s_.1 : Value).ownBlock ∧ some k_ ≠ (s_.2.2.1 : Value).ownBlock) (.slice Ao60 t349.length co60) t349) ∧ (Kd.R (Kd.int .i64) 23 w' w.heap.size (fun k_ => some k_ ≠ (.slice Ao51 t341.length co51 : Value).ownBlock ∧ some k_ ≠ (.slice Ao116 t402.length co116 : Value).ownBlock ∧ some k_ ≠ (s_.2.1 : Value).ownBlock ∧ some k_ ≠ (s_.2.2.2 : Value).ownBlock) (.slice Ao64 t352.length co64) t352) ∧ (Kd.R (Kd.int .i64) 3 w' w.heap.size (fun k_ => some k_ ≠ (.slice Ao49 t338.length co49 : Value).ownBlock ∧ some k_ ≠ (.slice Ao60 t349.length co60 : Value).ownBlock ∧ some k_ ≠ (s_.1 : Value).ownBlock ∧ some k_ ≠ (s_.2.2.1 : Value).ownBlock) (.slice Ao111 t399.length co111) t399) ∧ (Kd.R (Kd.int .i64) 23 w' w.heap.size (fun k_ => some k_ ≠ (.slice Ao51 t341.length co51 : Value).ownBlock ∧ some k_ ≠ (.slice Ao64 t352.length co64 : Value).ownBlock ∧ some k_ ≠ (s_.2.1 : Value).ownBlock ∧ some k_ ≠ (s_.2.2.2 : Value).ownBlock) (.slice Ao116 t402.length co116) t402) ∧ (Kd.R (Kd.int .i64) 3 w' w.heap.size (fun k_ => some k_ ≠ (.slice Ao49 t338.length co49 : Value).ownBlock ∧ some k_ ≠ (.slice Ao60 t349.length co60 : Value).ownBlock ∧ some k_ ≠ (.slice Ao111 t399.length co111 : Value).ownBlock ∧ some k_ ≠ (s_.2.2.1 : Value).ownBlock) s_.1 y440) ∧ (Kd.R (Kd.int .i64) 23 w' w.heap.size (fun k_ => some k_ ≠ (.slice Ao51 t341.length co51 : Value).ownBlock ∧ some k_ ≠ (.slice Ao64 t352.length co64 : Value).ownBlock ∧ some k_ ≠ (.slice Ao116 t402.length co116 : Value).ownBlock ∧ some k_ ≠ (s_.2.2.2 : Value).ownBlock) s_.2.1 y443) ∧ (Kd.R (Kd.int .i64) 3 w' w.heap.size (fun k_ => some k_ ≠ (.slice Ao49 t338.length co49 : Value).ownBlock ∧ some k_ ≠ (.slice Ao60 t349.length co60 : Value).ownBlock ∧ some k_ ≠ (.slice Ao111 t399.length co111 : Value).ownBlock ∧ some k_ ≠ (s_.1 : Value).ownBlock) s_.2.2.1 y447) ∧ (Kd.R (Kd.int .i64) 23 w' w.heap.size (fun k_ => some k_ ≠ (.slice Ao51 t341.length co51 : Value).ownBlock ∧ some k_ ≠ (.slice Ao64 t352.length co64 : Value).ownBlock ∧ some k_ ≠ (.slice Ao116 t402.length co116 : Value).ownBlock ∧ some k_ ≠ (s_.2.1 : Value).ownBlock) s_.2.2.2 y450) ∧ (w'.heap[gb345]? = some (.cells #[.slice Ao49 t338.length co49, .slice Ao51 t341.length co51] 27 (0, 0))) ∧ (w'.heap[gb356]? = some (.cells #[.slice Ao60 t349.length co60, .slice Ao64 t352.length co64] 27 (0, 0))) ∧ (w'.heap[gb406]? = some (.cells #[.slice Ao111 t399.length co111, .slice Ao116 t402.length co116] 27 (0, 0))) ∧ (w'.heap[gb439]? = some (.cells #[.slice Ao147 t432.length co147, .slice Ao152 t435.length co152] 27 (0, 0))) ∧ (Below w.heap.size w w')) ?_ ?_
 rotate_left
 ·intro hCont
  refine two_ (i := 4) (j := 5) (Ni := some 85) (Nj := some 86) #[true, true, true, true, true, false, false, false, false, false, false, false, false, false, false, false, false, false, false, false, false, false, false, false, false, false, false, false, false, false, false, false, false, false, false, false, false, false, false, false, false, false, false, false, false, false, false, false, false, false, false, false, false, false, false] #[true, true, true, true, false, true, false, false, false, false, false, false, false, false, false, false, false, false, false, false, false, false, false, false, false, false, false, false, false, false, false, false, false, false, false, false, false, false, false, false, false, false, false, false, false, false, false, false, false, false, false, false, false, false, false] rfl rfl rfl rfl (two_of HT_.out (by kernel_rfl)) (by decide) (by decide) (fun K hK => ?_) (fun K hK => ?_)
  ·skip
   refine Kd.R_lit_step (Kd.int .i64) _ 3 ?hg (N := 85) ?hd (xs := ([2, 2] : List Int)) (inner := [.int .i64 2, .int .i64 2]) (ok := fun _ => True) (okp := fun _ => True) ?hr ?hp (fun _ hk => hk) trivial (Below.refl _ _) (Nat.le_refl _) (by simp) ?_; (case hd => rfl); (case hg => rfl); (case hr => first | (go_simp; done) | (go_simp; rfl)); (case hp => exact (Reps.one (show Kd.M (Kd.int .i64) _ _ _ 2 [.int .i64 2] from rfl) (Reps.one (show Kd.M (Kd.int .i64) _ _ _ 2 [.int .i64 2] from rfl) (Reps.none _ _))))
   intro v441 w155 ho156 hb hg_ hnew_
   clear hg_ hnew_
   (first | rw [← Ny440.out] at ho156 | (simp only [Int.reduceToNat] at ho156; rw [← Ny440.out] at ho156))
   replace HO343 := zy_ HO343 hb
   replace HO354 := zy_ HO354 hb
   replace HO404 := zy_ HO404 hb
   have HO442 := Aside0.mk (Kd.R_lower (Kd.R_new' (Kd.R_new' (Kd.R_new' ho156 (Kd.R_lt (zr_ HO340.out))) (Kd.R_lt (zr_ HO351.out))) (Kd.R_lt (zr_ HO401.out))) (below_size (zw4_ HB GE345 GE356 GE406 GE439)))
   replace HO340 := ze_ HO340 ho156 hb
   replace HO351 := ze_ HO351 ho156 hb
   replace HO401 := ze_ HO401 ho156 hb
   replace BK345 := za_ BK345 hb
   replace BK356 := za_ BK356 hb
   replace BK406 := za_ BK406 hb
   replace BK439 := za_ BK439 hb
   replace HB := Aside0.mk (below_step (zw4_ HB GE345 GE356 GE406 GE439) hb)
   clear hb ho156
   refine hK.out _ _ ⟨zx_ BK345 0, zx_ BK345 1, zx_ BK356 0, zx_ BK356 1, zx_ BK406 0, zx_ BK406 1⟩ (fun hHeld => ?_)
   clear hK K
   refine zq_ (some 85) (h := ?_)
   refine yo_ 5 (some 86) (fun K hK => ?_)
   refine Kd.R_lit_step (Kd.int .i64) _ 23 ?hg (N := 86) ?hd (xs := ([11, 22, 13, 24] : List Int)) (inner := [.int .i64 11, .int .i64 22, .int .i64 13, .int .i64 24]) (ok := fun _ => True) (okp := fun _ => True) ?hr ?hp (fun _ hk => hk) trivial (Below.refl _ _) (Nat.le_refl _) (by simp) ?_; (case hd => rfl); (case hg => rfl); (case hr => first | (go_simp; done) | (go_simp; rfl)); (case hp => exact (Reps.one (show Kd.M (Kd.int .i64) _ _ _ 11 [.int .i64 11] from rfl) (Reps.one (show Kd.M (Kd.int .i64) _ _ _ 22 [.int .i64 22] from rfl) (Reps.one (show Kd.M (Kd.int .i64) _ _ _ 13 [.int .i64 13] from rfl) (Reps.one (show Kd.M (Kd.int .i64) _ _ _ 24 [.int .i64 24] from rfl) (Reps.none _ _))))))
   intro v444 w157 ho158 hb hg_ hnew_
   clear hg_ hnew_
   (first | rw [← Ny443.out] at ho158 | (simp only [Int.reduceToNat] at ho158; rw [← Ny443.out] at ho158))
   replace HO340 := zy_ HO340 hb
   replace HO351 := zy_ HO351 hb
   replace HO401 := zy_ HO401 hb
   replace HO442 := zy_ HO442 hb
   have HO445 := Aside0.mk (Kd.R_lower (Kd.R_new' (Kd.R_new' (Kd.R_new' ho158 (Kd.R_lt (zr_ HO343.out))) (Kd.R_lt (zr_ HO354.out))) (Kd.R_lt (zr_ HO404.out))) (below_size (zw4_ HB GE345 GE356 GE406 GE439)))
   replace HO343 := ze_ HO343 ho158 hb
   replace HO354 := ze_ HO354 ho158 hb
   replace HO404 := ze_ HO404 ho158 hb
   replace BK345 := za_ BK345 hb
   replace BK356 := za_ BK356 hb
   replace BK406 := za_ BK406 hb
   replace BK439 := za_ BK439 hb
   replace HB := Aside0.mk (below_step (zw4_ HB GE345 GE356 GE406 GE439) hb)
   clear hb ho158
   obtain ⟨Ao159, co159, eo159⟩ := Kd.R_slice HO445.out
   (first | subst eo159 | (injection eo159 with f1_ f2_ f3_; have f4_ := f1_.symm; have f5_ := f3_.symm; clear f1_ f2_ f3_; subst f4_; subst f5_))
   obtain ⟨Ao160, co160, eo160⟩ := Kd.R_slice HO442.out
   (first | subst eo160 | (injection eo160 with f1_ f2_ f3_; have f4_ := f1_.symm; have f5_ := f3_.symm; clear f1_ f2_ f3_; subst f4_; subst f5_))
   refine hK.out _ _ ⟨zx_ BK345 0, zx_ BK345 1, zx_ BK356 0, zx_ BK356 1, zx_ BK406 0, zx_ BK406 1⟩ (fun hHeld => ?_)
   clear hK K
   refine zq_ (some 86) (h := ?_)
   refine yp_ ?_ 6 87
   refine yo_ 7 (some 88) (fun K hK => ?_)
   refine yg_ Try.func21 #[.agg #[.slice Ao49 t338.length co49, .slice Ao51 t341.length co51], .agg #[.slice Ao160 y440.length co160, .slice Ao159 y443.length co159]] ?_
   with_reducible refine (tens_Same.calls k _ _ t338 _ _ t341 _ _ y440 _ _ y443 true _ ?side1 ?side2 ?side3 ?side4 ?side5 ?side6 ?side7 ?side8 A15.out).mono ?_
   (case side1 => exact zk_ ((Kd.R_reads' HO340.out).2.2))
   (case side2 => exact (Kd.R_reads' HO340.out).2.1)
   (case side3 => exact zk_ ((Kd.R_reads' HO343.out).2.2))
   (case side4 => exact (Kd.R_reads' HO343.out).2.1)
   (case side5 => exact zk_ ((Kd.R_reads' HO442.out).2.2))
   (case side6 => exact (Kd.R_reads' HO442.out).2.1)
   (case side7 => exact zk_ ((Kd.R_reads' HO445.out).2.2))
   (case side8 => exact (Kd.R_reads' HO445.out).2.1)
   rintro e w161 ⟨rfl, hb⟩
   refine ⟨_, rfl, ?_⟩
   replace HO340 := zy_ HO340 hb
   replace HO343 := zy_ HO343 hb
   replace HO351 := zy_ HO351 hb
   replace HO354 := zy_ HO354 hb
   replace HO401 := zy_ HO401 hb
   replace HO404 := zy_ HO404 hb
   replace HO442 := zy_ HO442 hb
   replace HO445 := zy_ HO445 hb
   replace BK345 := za_ BK345 hb
   replace BK356 := za_ BK356 hb
   replace BK406 := za_ BK406 hb
   replace BK439 := za_ BK439 hb
   replace HB := Aside0.mk (below_step (zw4_ HB GE345 GE356 GE406 GE439) hb)
   (try clear hb)
   (try clear hb2)
   (try clear hk)
   (try clear hi)
   refine hK.out _ _ ⟨zx_ BK345 0, zx_ BK345 1, zx_ BK356 0, zx_ BK356 1, zx_ BK406 0, zx_ BK406 1⟩ (fun hHeld => ?_)
   clear hK K
   refine zq_ (some 88) (h := ?_)
   refine yp_ ?_ 8 89
   refine yp_ ?_ 9 90
   refine yp_ ?_ 10 91
   refine yp_ ?_ 11 92
   refine yp_ ?_ 12 93
   refine yp_ ?_ 13 94
   refine yt6_ ?_ 14 95
   refine two_ (i := 15) (j := 16) (Ni := some 96) (Nj := some 97) #[true, true, true, true, true, true, true, true, true, true, true, true, true, true, true, true, false, false, false, false, false, false, false, false, false, false, false, false, false, false, false, false, false, false, false, false, false, false, false, false, false, false, false, false, false, false, false, false, false, false, false, false, false, false, false] #[true, true, true, true, true, true, true, true, true, true, true, true, true, true, true, false, true, false, false, false, false, false, false, false, false, false, false, false, false, false, false, false, false, false, false, false, false, false, false, false, false, false, false, false, false, false, false, false, false, false, false, false, false, false, false] rfl rfl rfl rfl (two_of HT_.out (by kernel_rfl)) (by decide) (by decide) (fun K hK => ?_) (fun K hK => ?_)
   ·skip
    refine Kd.R_lit_step (Kd.int .i64) _ 3 ?hg (N := 96) ?hd (xs := ([2, 2] : List Int)) (inner := [.int .i64 2, .int .i64 2]) (ok := fun _ => True) (okp := fun _ => True) ?hr ?hp (fun _ hk => hk) trivial (Below.refl _ _) (Nat.le_refl _) (by simp) ?_; (case hd => rfl); (case hg => rfl); (case hr => first | (go_simp; done) | (go_simp; rfl)); (case hp => exact (Reps.one (show Kd.M (Kd.int .i64) _ _ _ 2 [.int .i64 2] from rfl) (Reps.one (show Kd.M (Kd.int .i64) _ _ _ 2 [.int .i64 2] from rfl) (Reps.none _ _))))
    intro v448 w162 ho163 hb hg_ hnew_
    clear hg_ hnew_
    (first | rw [← Ny447.out] at ho163 | (simp only [Int.reduceToNat] at ho163; rw [← Ny447.out] at ho163))
    replace HO343 := zy_ HO343 hb
    replace HO354 := zy_ HO354 hb
    replace HO404 := zy_ HO404 hb
    replace HO445 := zy_ HO445 hb
    have HO449 := Aside0.mk (Kd.R_lower (Kd.R_new' (Kd.R_new' (Kd.R_new' (Kd.R_new' ho163 (Kd.R_lt (zr_ HO340.out))) (Kd.R_lt (zr_ HO351.out))) (Kd.R_lt (zr_ HO401.out))) (Kd.R_lt (zr_ HO442.out))) (below_size (zw4_ HB GE345 GE356 GE406 GE439)))
    replace HO340 := ze_ HO340 ho163 hb
    replace HO351 := ze_ HO351 ho163 hb
    replace HO401 := ze_ HO401 ho163 hb
    replace HO442 := ze_ HO442 ho163 hb
    replace BK345 := za_ BK345 hb
    replace BK356 := za_ BK356 hb
    replace BK406 := za_ BK406 hb
    replace BK439 := za_ BK439 hb
    replace HB := Aside0.mk (below_step (zw4_ HB GE345 GE356 GE406 GE439) hb)
    clear hb ho163
    refine hK.out _ _ ⟨zx_ BK345 0, zx_ BK345 1, zx_ BK356 0, zx_ BK356 1, zx_ BK406 0, zx_ BK406 1⟩ (fun hHeld => ?_)
    clear hK K
    refine zq_ (some 96) (h := ?_)
    refine yo_ 16 (some 97) (fun K hK => ?_)
    refine Kd.R_lit_step (Kd.int .i64) _ 23 ?hg (N := 97) ?hd (xs := ([1, 3, 2, 4] : List Int)) (inner := [.int .i64 1, .int .i64 3, .int .i64 2, .int .i64 4]) (ok := fun _ => True) (okp := fun _ => True) ?hr ?hp (fun _ hk => hk) trivial (Below.refl _ _) (Nat.le_refl _) (by simp) ?_; (case hd => rfl); (case hg => rfl); (case hr => first | (go_simp; done) | (go_simp; rfl)); (case hp => exact (Reps.one (show Kd.M (Kd.int .i64) _ _ _ 1 [.int .i64 1] from rfl) (Reps.one (show Kd.M (Kd.int .i64) _ _ _ 3 [.int .i64 3] from rfl) (Reps.one (show Kd.M (Kd.int .i64) _ _ _ 2 [.int .i64 2] from rfl) (Reps.one (show Kd.M (Kd.int .i64) _ _ _ 4 [.int .i64 4] from rfl) (Reps.none _ _))))))
    intro v451 w164 ho165 hb hg_ hnew_
    clear hg_ hnew_
    (first | rw [← Ny450.out] at ho165 | (simp only [Int.reduceToNat] at ho165; rw [← Ny450.out] at ho165))
    replace HO340 := zy_ HO340 hb
    replace HO351 := zy_ HO351 hb
    replace HO401 := zy_ HO401 hb
    replace HO442 := zy_ HO442 hb
    replace HO449 := zy_ HO449 hb
    have HO452 := Aside0.mk (Kd.R_lower (Kd.R_new' (Kd.R_new' (Kd.R_new' (Kd.R_new' ho165 (Kd.R_lt (zr_ HO343.out))) (Kd.R_lt (zr_ HO354.out))) (Kd.R_lt (zr_ HO404.out))) (Kd.R_lt (zr_ HO445.out))) (below_size (zw4_ HB GE345 GE356 GE406 GE439)))
    replace HO343 := ze_ HO343 ho165 hb
    replace HO354 := ze_ HO354 ho165 hb
    replace HO404 := ze_ HO404 ho165 hb
    replace HO445 := ze_ HO445 ho165 hb
    replace BK345 := za_ BK345 hb
    replace BK356 := za_ BK356 hb
    replace BK406 := za_ BK406 hb
    replace BK439 := za_ BK439 hb
    replace HB := Aside0.mk (below_step (zw4_ HB GE345 GE356 GE406 GE439) hb)
    clear hb ho165
    obtain ⟨Ao166, co166, eo166⟩ := Kd.R_slice HO452.out
    (first | subst eo166 | (injection eo166 with f1_ f2_ f3_; have f4_ := f1_.symm; have f5_ := f3_.symm; clear f1_ f2_ f3_; subst f4_; subst f5_))
    obtain ⟨Ao167, co167, eo167⟩ := Kd.R_slice HO449.out
    (first | subst eo167 | (injection eo167 with f1_ f2_ f3_; have f4_ := f1_.symm; have f5_ := f3_.symm; clear f1_ f2_ f3_; subst f4_; subst f5_))
    refine hK.out _ _ ⟨zx_ BK345 0, zx_ BK345 1, zx_ BK356 0, zx_ BK356 1, zx_ BK406 0, zx_ BK406 1⟩ (fun hHeld => ?_)
    clear hK K
    refine zq_ (some 97) (h := ?_)
    exact zj_ (hCont (.slice Ao160 y440.length co160, .slice Ao159 y443.length co159, .slice Ao167 y447.length co167, .slice Ao166 y450.length co166) _ ⟨hHeld, (zr_ (Kd.R_mono HO340.out (fun _ hk => ⟨hk.1.1.1, ⟨hk.1.1.2, ⟨hk.1.2, hk.2⟩⟩⟩))), (zr_ (Kd.R_mono HO343.out (fun _ hk => ⟨hk.1.1.1, ⟨hk.1.1.2, ⟨hk.1.2, hk.2⟩⟩⟩))), (zr_ (Kd.R_mono HO351.out (fun _ hk => ⟨hk.1.1.1, ⟨hk.1.1.2, ⟨hk.1.2, hk.2⟩⟩⟩))), (zr_ (Kd.R_mono HO354.out (fun _ hk => ⟨hk.1.1.1, ⟨hk.1.1.2, ⟨hk.1.2, hk.2⟩⟩⟩))), (zr_ (Kd.R_mono HO401.out (fun _ hk => ⟨hk.1.1.1, ⟨hk.1.1.2, ⟨hk.1.2, hk.2⟩⟩⟩))), (zr_ (Kd.R_mono HO404.out (fun _ hk => ⟨hk.1.1.1, ⟨hk.1.1.2, ⟨hk.1.2, hk.2⟩⟩⟩))), (zr_ (Kd.R_mono HO442.out (fun _ hk => ⟨hk.1.1.1.2, ⟨hk.1.1.2, ⟨hk.1.2, hk.2⟩⟩⟩))), (zr_ (Kd.R_mono HO445.out (fun _ hk => ⟨hk.1.1.1.2, ⟨hk.1.1.2, ⟨hk.1.2, hk.2⟩⟩⟩))), (zr_ (Kd.R_mono HO449.out (fun _ hk => ⟨hk.1.1.1.2, ⟨hk.1.1.2, ⟨hk.1.2, hk.2⟩⟩⟩))), (zr_ (Kd.R_mono HO452.out (fun _ hk => ⟨hk.1.1.1.2, ⟨hk.1.1.2, ⟨hk.1.2, hk.2⟩⟩⟩))), (zb_ BK345), (zb_ BK356), (zb_ BK406), (zb_ BK439), (zw4_ HB GE345 GE356 GE406 GE439)⟩)
   skip
   refine Kd.R_lit_step (Kd.int .i64) _ 23 ?hg (N := 97) ?hd (xs := ([1, 3, 2, 4] : List Int)) (inner := [.int .i64 1, .int .i64 3, .int .i64 2, .int .i64 4]) (ok := fun _ => True) (okp := fun _ => True) ?hr ?hp (fun _ hk => hk) trivial (Below.refl _ _) (Nat.le_refl _) (by simp) ?_; (case hd => rfl); (case hg => rfl); (case hr => first | (go_simp; done) | (go_simp; rfl)); (case hp => exact (Reps.one (show Kd.M (Kd.int .i64) _ _ _ 1 [.int .i64 1] from rfl) (Reps.one (show Kd.M (Kd.int .i64) _ _ _ 3 [.int .i64 3] from rfl) (Reps.one (show Kd.M (Kd.int .i64) _ _ _ 2 [.int .i64 2] from rfl) (Reps.one (show Kd.M (Kd.int .i64) _ _ _ 4 [.int .i64 4] from rfl) (Reps.none _ _))))))
   intro v451 w162 ho163 hb hg_ hnew_
   clear hg_ hnew_
   (first | rw [← Ny450.out] at ho163 | (simp only [Int.reduceToNat] at ho163; rw [← Ny450.out] at ho163))
   replace HO340 := zy_ HO340 hb
   replace HO351 := zy_ HO351 hb
   replace HO401 := zy_ HO401 hb
   replace HO442 := zy_ HO442 hb
   have HO452 := Aside0.mk (Kd.R_lower (Kd.R_new' (Kd.R_new' (Kd.R_new' (Kd.R_new' ho163 (Kd.R_lt (zr_ HO343.out))) (Kd.R_lt (zr_ HO354.out))) (Kd.R_lt (zr_ HO404.out))) (Kd.R_lt (zr_ HO445.out))) (below_size (zw4_ HB GE345 GE356 GE406 GE439)))
   replace HO343 := ze_ HO343 ho163 hb
   replace HO354 := ze_ HO354 ho163 hb
   replace HO404 := ze_ HO404 ho163 hb
   replace HO445 := ze_ HO445 ho163 hb
   replace BK345 := za_ BK345 hb
   replace BK356 := za_ BK356 hb
   replace BK406 := za_ BK406 hb
   replace BK439 := za_ BK439 hb
   replace HB := Aside0.mk (below_step (zw4_ HB GE345 GE356 GE406 GE439) hb)
   clear hb ho163
   refine hK.out _ _ ⟨zx_ BK345 0, zx_ BK345 1, zx_ BK356 0, zx_ BK356 1, zx_ BK406 0, zx_ BK406 1⟩ (fun hHeld => ?_)
   clear hK K
   refine zq_ (some 97) (h := ?_)
   refine yo_ 15 (some 96) (fun K hK => ?_)
   refine Kd.R_lit_step (Kd.int .i64) _ 3 ?hg (N := 96) ?hd (xs := ([2, 2] : List Int)) (inner := [.int .i64 2, .int .i64 2]) (ok := fun _ => True) (okp := fun _ => True) ?hr ?hp (fun _ hk => hk) trivial (Below.refl _ _) (Nat.le_refl _) (by simp) ?_; (case hd => rfl); (case hg => rfl); (case hr => first | (go_simp; done) | (go_simp; rfl)); (case hp => exact (Reps.one (show Kd.M (Kd.int .i64) _ _ _ 2 [.int .i64 2] from rfl) (Reps.one (show Kd.M (Kd.int .i64) _ _ _ 2 [.int .i64 2] from rfl) (Reps.none _ _))))
   intro v448 w164 ho165 hb hg_ hnew_
   clear hg_ hnew_
   (first | rw [← Ny447.out] at ho165 | (simp only [Int.reduceToNat] at ho165; rw [← Ny447.out] at ho165))
   replace HO343 := zy_ HO343 hb
   replace HO354 := zy_ HO354 hb
   replace HO404 := zy_ HO404 hb
   replace HO445 := zy_ HO445 hb
   replace HO452 := zy_ HO452 hb
   have HO449 := Aside0.mk (Kd.R_lower (Kd.R_new' (Kd.R_new' (Kd.R_new' (Kd.R_new' ho165 (Kd.R_lt (zr_ HO340.out))) (Kd.R_lt (zr_ HO351.out))) (Kd.R_lt (zr_ HO401.out))) (Kd.R_lt (zr_ HO442.out))) (below_size (zw4_ HB GE345 GE356 GE406 GE439)))
   replace HO340 := ze_ HO340 ho165 hb
   replace HO351 := ze_ HO351 ho165 hb
   replace HO401 := ze_ HO401 ho165 hb
   replace HO442 := ze_ HO442 ho165 hb
   replace BK345 := za_ BK345 hb
   replace BK356 := za_ BK356 hb
   replace BK406 := za_ BK406 hb
   replace BK439 := za_ BK439 hb
   replace HB := Aside0.mk (below_step (zw4_ HB GE345 GE356 GE406 GE439) hb)
   clear hb ho165
   obtain ⟨Ao166, co166, eo166⟩ := Kd.R_slice HO452.out
   (first | subst eo166 | (injection eo166 with f1_ f2_ f3_; have f4_ := f1_.symm; have f5_ := f3_.symm; clear f1_ f2_ f3_; subst f4_; subst f5_))
   obtain ⟨Ao167, co167, eo167⟩ := Kd.R_slice HO449.out
   (first | subst eo167 | (injection eo167 with f1_ f2_ f3_; have f4_ := f1_.symm; have f5_ := f3_.symm; clear f1_ f2_ f3_; subst f4_; subst f5_))
   refine hK.out _ _ ⟨zx_ BK345 0, zx_ BK345 1, zx_ BK356 0, zx_ BK356 1, zx_ BK406 0, zx_ BK406 1⟩ (fun hHeld => ?_)
   clear hK K
   refine zq_ (some 96) (h := ?_)
   exact zj_ (hCont (.slice Ao160 y440.length co160, .slice Ao159 y443.length co159, .slice Ao167 y447.length co167, .slice Ao166 y450.length co166) _ ⟨hHeld, (zr_ (Kd.R_mono HO340.out (fun _ hk => ⟨hk.1.1.1, ⟨hk.1.1.2, ⟨hk.1.2, hk.2⟩⟩⟩))), (zr_ (Kd.R_mono HO343.out (fun _ hk => ⟨hk.1.1.1, ⟨hk.1.1.2, ⟨hk.1.2, hk.2⟩⟩⟩))), (zr_ (Kd.R_mono HO351.out (fun _ hk => ⟨hk.1.1.1, ⟨hk.1.1.2, ⟨hk.1.2, hk.2⟩⟩⟩))), (zr_ (Kd.R_mono HO354.out (fun _ hk => ⟨hk.1.1.1, ⟨hk.1.1.2, ⟨hk.1.2, hk.2⟩⟩⟩))), (zr_ (Kd.R_mono HO401.out (fun _ hk => ⟨hk.1.1.1, ⟨hk.1.1.2, ⟨hk.1.2, hk.2⟩⟩⟩))), (zr_ (Kd.R_mono HO404.out (fun _ hk => ⟨hk.1.1.1, ⟨hk.1.1.2, ⟨hk.1.2, hk.2⟩⟩⟩))), (zr_ (Kd.R_mono HO442.out (fun _ hk => ⟨hk.1.1.1.2, ⟨hk.1.1.2, ⟨hk.1.2, hk.2⟩⟩⟩))), (zr_ (Kd.R_mono HO445.out (fun _ hk => ⟨hk.1.1.1.2, ⟨hk.1.1.2, ⟨hk.1.2, hk.2⟩⟩⟩))), (zr_ (Kd.R_mono HO449.out (fun _ hk => ⟨hk.1.1.1.2, ⟨hk.1.1.2, ⟨hk.1.2, hk.2⟩⟩⟩))), (zr_ (Kd.R_mono HO452.out (fun _ hk => ⟨hk.1.1.1.2, ⟨hk.1.1.2, ⟨hk.1.2, hk.2⟩⟩⟩))), (zb_ BK345), (zb_ BK356), (zb_ BK406), (zb_ BK439), (zw4_ HB GE345 GE356 GE406 GE439)⟩)
  skip
  refine Kd.R_lit_step (Kd.int .i64) _ 23 ?hg (N := 86) ?hd (xs := ([11, 22, 13, 24] : List Int)) (inner := [.int .i64 11, .int .i64 22, .int .i64 13, .int .i64 24]) (ok := fun _ => True) (okp := fun _ => True) ?hr ?hp (fun _ hk => hk) trivial (Below.refl _ _) (Nat.le_refl _) (by simp) ?_; (case hd => rfl); (case hg => rfl); (case hr => first | (go_simp; done) | (go_simp; rfl)); (case hp => exact (Reps.one (show Kd.M (Kd.int .i64) _ _ _ 11 [.int .i64 11] from rfl) (Reps.one (show Kd.M (Kd.int .i64) _ _ _ 22 [.int .i64 22] from rfl) (Reps.one (show Kd.M (Kd.int .i64) _ _ _ 13 [.int .i64 13] from rfl) (Reps.one (show Kd.M (Kd.int .i64) _ _ _ 24 [.int .i64 24] from rfl) (Reps.none _ _))))))
  intro v444 w155 ho156 hb hg_ hnew_
  clear hg_ hnew_
  (first | rw [← Ny443.out] at ho156 | (simp only [Int.reduceToNat] at ho156; rw [← Ny443.out] at ho156))
  replace HO340 := zy_ HO340 hb
  replace HO351 := zy_ HO351 hb
  replace HO401 := zy_ HO401 hb
  have HO445 := Aside0.mk (Kd.R_lower (Kd.R_new' (Kd.R_new' (Kd.R_new' ho156 (Kd.R_lt (zr_ HO343.out))) (Kd.R_lt (zr_ HO354.out))) (Kd.R_lt (zr_ HO404.out))) (below_size (zw4_ HB GE345 GE356 GE406 GE439)))
  replace HO343 := ze_ HO343 ho156 hb
  replace HO354 := ze_ HO354 ho156 hb
  replace HO404 := ze_ HO404 ho156 hb
  replace BK345 := za_ BK345 hb
  replace BK356 := za_ BK356 hb
  replace BK406 := za_ BK406 hb
  replace BK439 := za_ BK439 hb
  replace HB := Aside0.mk (below_step (zw4_ HB GE345 GE356 GE406 GE439) hb)
  clear hb ho156
  refine hK.out _ _ ⟨zx_ BK345 0, zx_ BK345 1, zx_ BK356 0, zx_ BK356 1, zx_ BK406 0, zx_ BK406 1⟩ (fun hHeld => ?_)
  clear hK K
  refine zq_ (some 86) (h := ?_)
  refine yo_ 4 (some 85) (fun K hK => ?_)
  refine Kd.R_lit_step (Kd.int .i64) _ 3 ?hg (N := 85) ?hd (xs := ([2, 2] : List Int)) (inner := [.int .i64 2, .int .i64 2]) (ok := fun _ => True) (okp := fun _ => True) ?hr ?hp (fun _ hk => hk) trivial (Below.refl _ _) (Nat.le_refl _) (by simp) ?_; (case hd => rfl); (case hg => rfl); (case hr => first | (go_simp; done) | (go_simp; rfl)); (case hp => exact (Reps.one (show Kd.M (Kd.int .i64) _ _ _ 2 [.int .i64 2] from rfl) (Reps.one (show Kd.M (Kd.int .i64) _ _ _ 2 [.int .i64 2] from rfl) (Reps.none _ _))))
  intro v441 w157 ho158 hb hg_ hnew_
  clear hg_ hnew_
  (first | rw [← Ny440.out] at ho158 | (simp only [Int.reduceToNat] at ho158; rw [← Ny440.out] at ho158))
  replace HO343 := zy_ HO343 hb
  replace HO354 := zy_ HO354 hb
  replace HO404 := zy_ HO404 hb
  replace HO445 := zy_ HO445 hb
  have HO442 := Aside0.mk (Kd.R_lower (Kd.R_new' (Kd.R_new' (Kd.R_new' ho158 (Kd.R_lt (zr_ HO340.out))) (Kd.R_lt (zr_ HO351.out))) (Kd.R_lt (zr_ HO401.out))) (below_size (zw4_ HB GE345 GE356 GE406 GE439)))
  replace HO340 := ze_ HO340 ho158 hb
  replace HO351 := ze_ HO351 ho158 hb
  replace HO401 := ze_ HO401 ho158 hb
  replace BK345 := za_ BK345 hb
  replace BK356 := za_ BK356 hb
  replace BK406 := za_ BK406 hb
  replace BK439 := za_ BK439 hb
  replace HB := Aside0.mk (below_step (zw4_ HB GE345 GE356 GE406 GE439) hb)
  clear hb ho158
  obtain ⟨Ao159, co159, eo159⟩ := Kd.R_slice HO445.out
  (first | subst eo159 | (injection eo159 with f1_ f2_ f3_; have f4_ := f1_.symm; have f5_ := f3_.symm; clear f1_ f2_ f3_; subst f4_; subst f5_))
  obtain ⟨Ao160, co160, eo160⟩ := Kd.R_slice HO442.out
  (first | subst eo160 | (injection eo160 with f1_ f2_ f3_; have f4_ := f1_.symm; have f5_ := f3_.symm; clear f1_ f2_ f3_; subst f4_; subst f5_))
  refine hK.out _ _ ⟨zx_ BK345 0, zx_ BK345 1, zx_ BK356 0, zx_ BK356 1, zx_ BK406 0, zx_ BK406 1⟩ (fun hHeld => ?_)
  clear hK K
  refine zq_ (some 85) (h := ?_)
  refine yp_ ?_ 6 87
  refine yo_ 7 (some 88) (fun K hK => ?_)
  refine yg_ Try.func21 #[.agg #[.slice Ao49 t338.length co49, .slice Ao51 t341.length co51], .agg #[.slice Ao160 y440.length co160, .slice Ao159 y443.length co159]] ?_
  with_reducible refine (tens_Same.calls k _ _ t338 _ _ t341 _ _ y440 _ _ y443 true _ ?side1 ?side2 ?side3 ?side4 ?side5 ?side6 ?side7 ?side8 A15.out).mono ?_
  (case side1 => exact zk_ ((Kd.R_reads' HO340.out).2.2))
  (case side2 => exact (Kd.R_reads' HO340.out).2.1)
  (case side3 => exact zk_ ((Kd.R_reads' HO343.out).2.2))
  (case side4 => exact (Kd.R_reads' HO343.out).2.1)
  (case side5 => exact zk_ ((Kd.R_reads' HO442.out).2.2))
  (case side6 => exact (Kd.R_reads' HO442.out).2.1)
  (case side7 => exact zk_ ((Kd.R_reads' HO445.out).2.2))
  (case side8 => exact (Kd.R_reads' HO445.out).2.1)
  rintro e w161 ⟨rfl, hb⟩
  refine ⟨_, rfl, ?_⟩
  replace HO340 := zy_ HO340 hb
  replace HO343 := zy_ HO343 hb
  replace HO351 := zy_ HO351 hb
  replace HO354 := zy_ HO354 hb
  replace HO401 := zy_ HO401 hb
  replace HO404 := zy_ HO404 hb
  replace HO445 := zy_ HO445 hb
  replace HO442 := zy_ HO442 hb
  replace BK345 := za_ BK345 hb
  replace BK356 := za_ BK356 hb
  replace BK406 := za_ BK406 hb
  replace BK439 := za_ BK439 hb
  replace HB := Aside0.mk (below_step (zw4_ HB GE345 GE356 GE406 GE439) hb)
  (try clear hb)
  (try clear hb2)
  (try clear hk)
  (try clear hi)
  refine hK.out _ _ ⟨zx_ BK345 0, zx_ BK345 1, zx_ BK356 0, zx_ BK356 1, zx_ BK406 0, zx_ BK406 1⟩ (fun hHeld => ?_)
  clear hK K
  refine zq_ (some 88) (h := ?_)
  refine yp_ ?_ 8 89
  refine yp_ ?_ 9 90
  refine yp_ ?_ 10 91
  refine yp_ ?_ 11 92
  refine yp_ ?_ 12 93
  refine yp_ ?_ 13 94
  refine yt6_ ?_ 14 95
  refine two_ (i := 15) (j := 16) (Ni := some 96) (Nj := some 97) #[true, true, true, true, true, true, true, true, true, true, true, true, true, true, true, true, false, false, false, false, false, false, false, false, false, false, false, false, false, false, false, false, false, false, false, false, false, false, false, false, false, false, false, false, false, false, false, false, false, false, false, false, false, false, false] #[true, true, true, true, true, true, true, true, true, true, true, true, true, true, true, false, true, false, false, false, false, false, false, false, false, false, false, false, false, false, false, false, false, false, false, false, false, false, false, false, false, false, false, false, false, false, false, false, false, false, false, false, false, false, false] rfl rfl rfl rfl (two_of HT_.out (by kernel_rfl)) (by decide) (by decide) (fun K hK => ?_) (fun K hK => ?_)
  ·skip
   refine Kd.R_lit_step (Kd.int .i64) _ 3 ?hg (N := 96) ?hd (xs := ([2, 2] : List Int)) (inner := [.int .i64 2, .int .i64 2]) (ok := fun _ => True) (okp := fun _ => True) ?hr ?hp (fun _ hk => hk) trivial (Below.refl _ _) (Nat.le_refl _) (by simp) ?_; (case hd => rfl); (case hg => rfl); (case hr => first | (go_simp; done) | (go_simp; rfl)); (case hp => exact (Reps.one (show Kd.M (Kd.int .i64) _ _ _ 2 [.int .i64 2] from rfl) (Reps.one (show Kd.M (Kd.int .i64) _ _ _ 2 [.int .i64 2] from rfl) (Reps.none _ _))))
   intro v448 w162 ho163 hb hg_ hnew_
   clear hg_ hnew_
   (first | rw [← Ny447.out] at ho163 | (simp only [Int.reduceToNat] at ho163; rw [← Ny447.out] at ho163))
   replace HO343 := zy_ HO343 hb
   replace HO354 := zy_ HO354 hb
   replace HO404 := zy_ HO404 hb
   replace HO445 := zy_ HO445 hb
   have HO449 := Aside0.mk (Kd.R_lower (Kd.R_new' (Kd.R_new' (Kd.R_new' (Kd.R_new' ho163 (Kd.R_lt (zr_ HO340.out))) (Kd.R_lt (zr_ HO351.out))) (Kd.R_lt (zr_ HO401.out))) (Kd.R_lt (zr_ HO442.out))) (below_size (zw4_ HB GE345 GE356 GE406 GE439)))
   replace HO340 := ze_ HO340 ho163 hb
   replace HO351 := ze_ HO351 ho163 hb
   replace HO401 := ze_ HO401 ho163 hb
   replace HO442 := ze_ HO442 ho163 hb
   replace BK345 := za_ BK345 hb
   replace BK356 := za_ BK356 hb
   replace BK406 := za_ BK406 hb
   replace BK439 := za_ BK439 hb
   replace HB := Aside0.mk (below_step (zw4_ HB GE345 GE356 GE406 GE439) hb)
   clear hb ho163
   refine hK.out _ _ ⟨zx_ BK345 0, zx_ BK345 1, zx_ BK356 0, zx_ BK356 1, zx_ BK406 0, zx_ BK406 1⟩ (fun hHeld => ?_)
   clear hK K
   refine zq_ (some 96) (h := ?_)
   refine yo_ 16 (some 97) (fun K hK => ?_)
   refine Kd.R_lit_step (Kd.int .i64) _ 23 ?hg (N := 97) ?hd (xs := ([1, 3, 2, 4] : List Int)) (inner := [.int .i64 1, .int .i64 3, .int .i64 2, .int .i64 4]) (ok := fun _ => True) (okp := fun _ => True) ?hr ?hp (fun _ hk => hk) trivial (Below.refl _ _) (Nat.le_refl _) (by simp) ?_; (case hd => rfl); (case hg => rfl); (case hr => first | (go_simp; done) | (go_simp; rfl)); (case hp => exact (Reps.one (show Kd.M (Kd.int .i64) _ _ _ 1 [.int .i64 1] from rfl) (Reps.one (show Kd.M (Kd.int .i64) _ _ _ 3 [.int .i64 3] from rfl) (Reps.one (show Kd.M (Kd.int .i64) _ _ _ 2 [.int .i64 2] from rfl) (Reps.one (show Kd.M (Kd.int .i64) _ _ _ 4 [.int .i64 4] from rfl) (Reps.none _ _))))))
   intro v451 w164 ho165 hb hg_ hnew_
   clear hg_ hnew_
   (first | rw [← Ny450.out] at ho165 | (simp only [Int.reduceToNat] at ho165; rw [← Ny450.out] at ho165))
   replace HO340 := zy_ HO340 hb
   replace HO351 := zy_ HO351 hb
   replace HO401 := zy_ HO401 hb
   replace HO442 := zy_ HO442 hb
   replace HO449 := zy_ HO449 hb
   have HO452 := Aside0.mk (Kd.R_lower (Kd.R_new' (Kd.R_new' (Kd.R_new' (Kd.R_new' ho165 (Kd.R_lt (zr_ HO343.out))) (Kd.R_lt (zr_ HO354.out))) (Kd.R_lt (zr_ HO404.out))) (Kd.R_lt (zr_ HO445.out))) (below_size (zw4_ HB GE345 GE356 GE406 GE439)))
   replace HO343 := ze_ HO343 ho165 hb
   replace HO354 := ze_ HO354 ho165 hb
   replace HO404 := ze_ HO404 ho165 hb
   replace HO445 := ze_ HO445 ho165 hb
   replace BK345 := za_ BK345 hb
   replace BK356 := za_ BK356 hb
   replace BK406 := za_ BK406 hb
   replace BK439 := za_ BK439 hb
   replace HB := Aside0.mk (below_step (zw4_ HB GE345 GE356 GE406 GE439) hb)
   clear hb ho165
   obtain ⟨Ao166, co166, eo166⟩ := Kd.R_slice HO452.out
   (first | subst eo166 | (injection eo166 with f1_ f2_ f3_; have f4_ := f1_.symm; have f5_ := f3_.symm; clear f1_ f2_ f3_; subst f4_; subst f5_))
   obtain ⟨Ao167, co167, eo167⟩ := Kd.R_slice HO449.out
   (first | subst eo167 | (injection eo167 with f1_ f2_ f3_; have f4_ := f1_.symm; have f5_ := f3_.symm; clear f1_ f2_ f3_; subst f4_; subst f5_))
   refine hK.out _ _ ⟨zx_ BK345 0, zx_ BK345 1, zx_ BK356 0, zx_ BK356 1, zx_ BK406 0, zx_ BK406 1⟩ (fun hHeld => ?_)
   clear hK K
   refine zq_ (some 97) (h := ?_)
   exact zj_ (hCont (.slice Ao160 y440.length co160, .slice Ao159 y443.length co159, .slice Ao167 y447.length co167, .slice Ao166 y450.length co166) _ ⟨hHeld, (zr_ (Kd.R_mono HO340.out (fun _ hk => ⟨hk.1.1.1, ⟨hk.1.1.2, ⟨hk.1.2, hk.2⟩⟩⟩))), (zr_ (Kd.R_mono HO343.out (fun _ hk => ⟨hk.1.1.1, ⟨hk.1.1.2, ⟨hk.1.2, hk.2⟩⟩⟩))), (zr_ (Kd.R_mono HO351.out (fun _ hk => ⟨hk.1.1.1, ⟨hk.1.1.2, ⟨hk.1.2, hk.2⟩⟩⟩))), (zr_ (Kd.R_mono HO354.out (fun _ hk => ⟨hk.1.1.1, ⟨hk.1.1.2, ⟨hk.1.2, hk.2⟩⟩⟩))), (zr_ (Kd.R_mono HO401.out (fun _ hk => ⟨hk.1.1.1, ⟨hk.1.1.2, ⟨hk.1.2, hk.2⟩⟩⟩))), (zr_ (Kd.R_mono HO404.out (fun _ hk => ⟨hk.1.1.1, ⟨hk.1.1.2, ⟨hk.1.2, hk.2⟩⟩⟩))), (zr_ (Kd.R_mono HO442.out (fun _ hk => ⟨hk.1.1.1.2, ⟨hk.1.1.2, ⟨hk.1.2, hk.2⟩⟩⟩))), (zr_ (Kd.R_mono HO445.out (fun _ hk => ⟨hk.1.1.1.2, ⟨hk.1.1.2, ⟨hk.1.2, hk.2⟩⟩⟩))), (zr_ (Kd.R_mono HO449.out (fun _ hk => ⟨hk.1.1.1.2, ⟨hk.1.1.2, ⟨hk.1.2, hk.2⟩⟩⟩))), (zr_ (Kd.R_mono HO452.out (fun _ hk => ⟨hk.1.1.1.2, ⟨hk.1.1.2, ⟨hk.1.2, hk.2⟩⟩⟩))), (zb_ BK345), (zb_ BK356), (zb_ BK406), (zb_ BK439), (zw4_ HB GE345 GE356 GE406 GE439)⟩)
  skip
  refine Kd.R_lit_step (Kd.int .i64) _ 23 ?hg (N := 97) ?hd (xs := ([1, 3, 2, 4] : List Int)) (inner := [.int .i64 1, .int .i64 3, .int .i64 2, .int .i64 4]) (ok := fun _ => True) (okp := fun _ => True) ?hr ?hp (fun _ hk => hk) trivial (Below.refl _ _) (Nat.le_refl _) (by simp) ?_; (case hd => rfl); (case hg => rfl); (case hr => first | (go_simp; done) | (go_simp; rfl)); (case hp => exact (Reps.one (show Kd.M (Kd.int .i64) _ _ _ 1 [.int .i64 1] from rfl) (Reps.one (show Kd.M (Kd.int .i64) _ _ _ 3 [.int .i64 3] from rfl) (Reps.one (show Kd.M (Kd.int .i64) _ _ _ 2 [.int .i64 2] from rfl) (Reps.one (show Kd.M (Kd.int .i64) _ _ _ 4 [.int .i64 4] from rfl) (Reps.none _ _))))))
  intro v451 w162 ho163 hb hg_ hnew_
  clear hg_ hnew_
  (first | rw [← Ny450.out] at ho163 | (simp only [Int.reduceToNat] at ho163; rw [← Ny450.out] at ho163))
  replace HO340 := zy_ HO340 hb
  replace HO351 := zy_ HO351 hb
  replace HO401 := zy_ HO401 hb
  replace HO442 := zy_ HO442 hb
  have HO452 := Aside0.mk (Kd.R_lower (Kd.R_new' (Kd.R_new' (Kd.R_new' (Kd.R_new' ho163 (Kd.R_lt (zr_ HO343.out))) (Kd.R_lt (zr_ HO354.out))) (Kd.R_lt (zr_ HO404.out))) (Kd.R_lt (zr_ HO445.out))) (below_size (zw4_ HB GE345 GE356 GE406 GE439)))
  replace HO343 := ze_ HO343 ho163 hb
  replace HO354 := ze_ HO354 ho163 hb
  replace HO404 := ze_ HO404 ho163 hb
  replace HO445 := ze_ HO445 ho163 hb
  replace BK345 := za_ BK345 hb
  replace BK356 := za_ BK356 hb
  replace BK406 := za_ BK406 hb
  replace BK439 := za_ BK439 hb
  replace HB := Aside0.mk (below_step (zw4_ HB GE345 GE356 GE406 GE439) hb)
  clear hb ho163
  refine hK.out _ _ ⟨zx_ BK345 0, zx_ BK345 1, zx_ BK356 0, zx_ BK356 1, zx_ BK406 0, zx_ BK406 1⟩ (fun hHeld => ?_)
  clear hK K
  refine zq_ (some 97) (h := ?_)
  refine yo_ 15 (some 96) (fun K hK => ?_)
  refine Kd.R_lit_step (Kd.int .i64) _ 3 ?hg (N := 96) ?hd (xs := ([2, 2] : List Int)) (inner := [.int .i64 2, .int .i64 2]) (ok := fun _ => True) (okp := fun _ => True) ?hr ?hp (fun _ hk => hk) trivial (Below.refl _ _) (Nat.le_refl _) (by simp) ?_; (case hd => rfl); (case hg => rfl); (case hr => first | (go_simp; done) | (go_simp; rfl)); (case hp => exact (Reps.one (show Kd.M (Kd.int .i64) _ _ _ 2 [.int .i64 2] from rfl) (Reps.one (show Kd.M (Kd.int .i64) _ _ _ 2 [.int .i64 2] from rfl) (Reps.none _ _))))
  intro v448 w164 ho165 hb hg_ hnew_
  clear hg_ hnew_
  (first | rw [← Ny447.out] at ho165 | (simp only [Int.reduceToNat] at ho165; rw [← Ny447.out] at ho165))
  replace HO343 := zy_ HO343 hb
  replace HO354 := zy_ HO354 hb
  replace HO404 := zy_ HO404 hb
  replace HO445 := zy_ HO445 hb
  replace HO452 := zy_ HO452 hb
  have HO449 := Aside0.mk (Kd.R_lower (Kd.R_new' (Kd.R_new' (Kd.R_new' (Kd.R_new' ho165 (Kd.R_lt (zr_ HO340.out))) (Kd.R_lt (zr_ HO351.out))) (Kd.R_lt (zr_ HO401.out))) (Kd.R_lt (zr_ HO442.out))) (below_size (zw4_ HB GE345 GE356 GE406 GE439)))
  replace HO340 := ze_ HO340 ho165 hb
  replace HO351 := ze_ HO351 ho165 hb
  replace HO401 := ze_ HO401 ho165 hb
  replace HO442 := ze_ HO442 ho165 hb
  replace BK345 := za_ BK345 hb
  replace BK356 := za_ BK356 hb
  replace BK406 := za_ BK406 hb
  replace BK439 := za_ BK439 hb
  replace HB := Aside0.mk (below_step (zw4_ HB GE345 GE356 GE406 GE439) hb)
  clear hb ho165
  obtain ⟨Ao166, co166, eo166⟩ := Kd.R_slice HO452.out
  (first | subst eo166 | (injection eo166 with f1_ f2_ f3_; have f4_ := f1_.symm; have f5_ := f3_.symm; clear f1_ f2_ f3_; subst f4_; subst f5_))
  obtain ⟨Ao167, co167, eo167⟩ := Kd.R_slice HO449.out
  (first | subst eo167 | (injection eo167 with f1_ f2_ f3_; have f4_ := f1_.symm; have f5_ := f3_.symm; clear f1_ f2_ f3_; subst f4_; subst f5_))
  refine hK.out _ _ ⟨zx_ BK345 0, zx_ BK345 1, zx_ BK356 0, zx_ BK356 1, zx_ BK406 0, zx_ BK406 1⟩ (fun hHeld => ?_)
  clear hK K
  refine zq_ (some 96) (h := ?_)
  exact zj_ (hCont (.slice Ao160 y440.length co160, .slice Ao159 y443.length co159, .slice Ao167 y447.length co167, .slice Ao166 y450.length co166) _ ⟨hHeld, (zr_ (Kd.R_mono HO340.out (fun _ hk => ⟨hk.1.1.1, ⟨hk.1.1.2, ⟨hk.1.2, hk.2⟩⟩⟩))), (zr_ (Kd.R_mono HO343.out (fun _ hk => ⟨hk.1.1.1, ⟨hk.1.1.2, ⟨hk.1.2, hk.2⟩⟩⟩))), (zr_ (Kd.R_mono HO351.out (fun _ hk => ⟨hk.1.1.1, ⟨hk.1.1.2, ⟨hk.1.2, hk.2⟩⟩⟩))), (zr_ (Kd.R_mono HO354.out (fun _ hk => ⟨hk.1.1.1, ⟨hk.1.1.2, ⟨hk.1.2, hk.2⟩⟩⟩))), (zr_ (Kd.R_mono HO401.out (fun _ hk => ⟨hk.1.1.1, ⟨hk.1.1.2, ⟨hk.1.2, hk.2⟩⟩⟩))), (zr_ (Kd.R_mono HO404.out (fun _ hk => ⟨hk.1.1.1, ⟨hk.1.1.2, ⟨hk.1.2, hk.2⟩⟩⟩))), (zr_ (Kd.R_mono HO442.out (fun _ hk => ⟨hk.1.1.1.2, ⟨hk.1.1.2, ⟨hk.1.2, hk.2⟩⟩⟩))), (zr_ (Kd.R_mono HO445.out (fun _ hk => ⟨hk.1.1.1.2, ⟨hk.1.1.2, ⟨hk.1.2, hk.2⟩⟩⟩))), (zr_ (Kd.R_mono HO449.out (fun _ hk => ⟨hk.1.1.1.2, ⟨hk.1.1.2, ⟨hk.1.2, hk.2⟩⟩⟩))), (zr_ (Kd.R_mono HO452.out (fun _ hk => ⟨hk.1.1.1.2, ⟨hk.1.1.2, ⟨hk.1.2, hk.2⟩⟩⟩))), (zb_ BK345), (zb_ BK356), (zb_ BK406), (zb_ BK439), (zw4_ HB GE345 GE356 GE406 GE439)⟩)
 rintro ⟨v441, v444, v448, v451⟩ w168 ⟨hS_, h0_, h1_, h2_, h3_, h4_, h5_, h6_, h7_, h8_, h9_, h10_, h11_, h12_, h13_, h14_⟩
 (try dsimp only at h0_ h1_ h2_ h3_ h4_ h5_ h6_ h7_ h8_ h9_ h10_ h11_ h12_ h13_ h14_)
 clear HO340 HO343 HO351 HO354 HO401 HO404 BK345 BK356 BK406 BK439 HB
 have HO340 := Aside0.mk h0_
 have HO343 := Aside0.mk h1_
 have HO351 := Aside0.mk h2_
 have HO354 := Aside0.mk h3_
 have HO401 := Aside0.mk h4_
 have HO404 := Aside0.mk h5_
 have HO442 := Aside0.mk h6_
 have HO445 := Aside0.mk h7_
 have HO449 := Aside0.mk h8_
 have HO452 := Aside0.mk h9_
 have BK345 := Aside0.mk h10_
 have BK356 := Aside0.mk h11_
 have BK406 := Aside0.mk h12_
 have BK439 := Aside0.mk h13_
 have HB := Aside0.mk h14_
 clear h0_ h1_ h2_ h3_ h4_ h5_ h6_ h7_ h8_ h9_ h10_ h11_ h12_ h13_ h14_
 have hHeld : w168.cell? ⟨gb345, 0, none⟩ = some (.slice Ao49 t338.length co49) ∧ w168.cell? ⟨gb345, 1, none⟩ = some (.slice Ao51 t341.length co51) ∧ w168.cell? ⟨gb356, 0, none⟩ = some (.slice Ao60 t349.length co60) ∧ w168.cell? ⟨gb356, 1, none⟩ = some (.slice Ao64 t352.length co64) ∧ w168.cell? ⟨gb406, 0, none⟩ = some (.slice Ao111 t399.length co111) ∧ w168.cell? ⟨gb406, 1, none⟩ = some (.slice Ao116 t402.length co116) := hS_
 obtain ⟨Ao169, co169, eo169⟩ := Kd.R_slice HO445.out
 (first | subst eo169 | (injection eo169 with f1_ f2_ f3_; have f4_ := f1_.symm; have f5_ := f3_.symm; clear f1_ f2_ f3_; subst f4_; subst f5_))
 obtain ⟨Ao170, co170, eo170⟩ := Kd.R_slice HO442.out
 (first | subst eo170 | (injection eo170 with f1_ f2_ f3_; have f4_ := f1_.symm; have f5_ := f3_.symm; clear f1_ f2_ f3_; subst f4_; subst f5_))
 obtain ⟨Ao171, co171, eo171⟩ := Kd.R_slice HO452.out
 (first | subst eo171 | (injection eo171 with f1_ f2_ f3_; have f4_ := f1_.symm; have f5_ := f3_.symm; clear f1_ f2_ f3_; subst f4_; subst f5_))
 obtain ⟨Ao172, co172, eo172⟩ := Kd.R_slice HO449.out
 (first | subst eo172 | (injection eo172 with f1_ f2_ f3_; have f4_ := f1_.symm; have f5_ := f3_.symm; clear f1_ f2_ f3_; subst f4_; subst f5_))
 refine zi_ (h := ?_)
 refine yp_ ?_ 17 98
 refine yo_ 18 (some 99) (fun K hK => ?_)
 refine yg_ Try.func21 #[.agg #[.slice Ao60 t349.length co60, .slice Ao64 t352.length co64], .agg #[.slice Ao172 y447.length co172, .slice Ao171 y450.length co171]] ?_
 with_reducible refine (tens_Same.calls k _ _ t349 _ _ t352 _ _ y447 _ _ y450 true _ ?side1 ?side2 ?side3 ?side4 ?side5 ?side6 ?side7 ?side8 A18.out).mono ?_
 (case side1 => exact zk_ ((Kd.R_reads' HO351.out).2.2))
 (case side2 => exact (Kd.R_reads' HO351.out).2.1)
 (case side3 => exact zk_ ((Kd.R_reads' HO354.out).2.2))
 (case side4 => exact (Kd.R_reads' HO354.out).2.1)
 (case side5 => exact zk_ ((Kd.R_reads' HO449.out).2.2))
 (case side6 => exact (Kd.R_reads' HO449.out).2.1)
 (case side7 => exact zk_ ((Kd.R_reads' HO452.out).2.2))
 (case side8 => exact (Kd.R_reads' HO452.out).2.1)
 rintro e w173 ⟨rfl, hb⟩
 refine ⟨_, rfl, ?_⟩
 replace HO340 := zy_ HO340 hb
 replace HO343 := zy_ HO343 hb
 replace HO351 := zy_ HO351 hb
 replace HO354 := zy_ HO354 hb
 replace HO401 := zy_ HO401 hb
 replace HO404 := zy_ HO404 hb
 replace HO442 := zy_ HO442 hb
 replace HO445 := zy_ HO445 hb
 replace HO449 := zy_ HO449 hb
 replace HO452 := zy_ HO452 hb
 replace BK345 := za_ BK345 hb
 replace BK356 := za_ BK356 hb
 replace BK406 := za_ BK406 hb
 replace BK439 := za_ BK439 hb
 replace HB := Aside0.mk (below_step (zw4_ HB GE345 GE356 GE406 GE439) hb)
 (try clear hb)
 (try clear hb2)
 (try clear hk)
 (try clear hi)
 refine hK.out _ _ ⟨zx_ BK345 0, zx_ BK345 1, zx_ BK356 0, zx_ BK356 1, zx_ BK406 0, zx_ BK406 1⟩ (fun hHeld => ?_)
 clear hK K
 refine zq_ (some 99) (h := ?_)
 refine yp_ ?_ 19 100
 refine yp_ ?_ 20 101
 refine yp_ ?_ 21 102
 refine yp_ ?_ 22 103
 refine yp_ ?_ 23 104
 refine yp_ ?_ 24 105
 refine yp_ ?_ 25 106
 refine yp_ ?_ 26 107
 refine yp_ ?_ 27 108
 refine yp_ ?_ 28 109
 refine yp_ ?_ 29 110
 refine yp_ ?_ 30 111
 refine yp_ ?_ 31 112
 refine yp_ ?_ 32 113
 refine yp_ ?_ 33 114
 refine yp_ ?_ 34 115
 refine yp_ ?_ 35 116
 refine yp_ ?_ 36 117
 refine yt6_ ?_ 37 118
 refine yo_ 38 (some 119) (fun K hK => ?_)
 refine Kd.R_lit_step (Kd.int .i64) _ 23 ?hg (N := 119) ?hd (xs := ([1, 2, 3, 4] : List Int)) (inner := [.int .i64 1, .int .i64 2, .int .i64 3, .int .i64 4]) (ok := fun _ => True) (okp := fun _ => True) ?hr ?hp (fun _ hk => hk) trivial (Below.refl _ _) (Nat.le_refl _) (by simp) ?_; (case hd => rfl); (case hg => rfl); (case hr => first | (go_simp; done) | (go_simp; rfl)); (case hp => exact (Reps.one (show Kd.M (Kd.int .i64) _ _ _ 1 [.int .i64 1] from rfl) (Reps.one (show Kd.M (Kd.int .i64) _ _ _ 2 [.int .i64 2] from rfl) (Reps.one (show Kd.M (Kd.int .i64) _ _ _ 3 [.int .i64 3] from rfl) (Reps.one (show Kd.M (Kd.int .i64) _ _ _ 4 [.int .i64 4] from rfl) (Reps.none _ _))))))
 intro v455 w174 ho175 hb hg_ hnew_
 clear hg_ hnew_
 (first | rw [← Ny454.out] at ho175 | (simp only [Int.reduceToNat] at ho175; rw [← Ny454.out] at ho175))
 replace HO340 := zy_ HO340 hb
 replace HO351 := zy_ HO351 hb
 replace HO401 := zy_ HO401 hb
 replace HO442 := zy_ HO442 hb
 replace HO449 := zy_ HO449 hb
 have HO456 := Aside0.mk (Kd.R_lower (Kd.R_new' (Kd.R_new' (Kd.R_new' (Kd.R_new' (Kd.R_new' ho175 (Kd.R_lt (zr_ HO343.out))) (Kd.R_lt (zr_ HO354.out))) (Kd.R_lt (zr_ HO404.out))) (Kd.R_lt (zr_ HO445.out))) (Kd.R_lt (zr_ HO452.out))) (below_size (zw4_ HB GE345 GE356 GE406 GE439)))
 replace HO343 := ze_ HO343 ho175 hb
 replace HO354 := ze_ HO354 ho175 hb
 replace HO404 := ze_ HO404 ho175 hb
 replace HO445 := ze_ HO445 ho175 hb
 replace HO452 := ze_ HO452 ho175 hb
 replace BK345 := za_ BK345 hb
 replace BK356 := za_ BK356 hb
 replace BK406 := za_ BK406 hb
 replace BK439 := za_ BK439 hb
 replace HB := Aside0.mk (below_step (zw4_ HB GE345 GE356 GE406 GE439) hb)
 clear hb ho175
 obtain ⟨Ao176, co176, eo176⟩ := Kd.R_slice HO456.out
 (first | subst eo176 | (injection eo176 with f1_ f2_ f3_; have f4_ := f1_.symm; have f5_ := f3_.symm; clear f1_ f2_ f3_; subst f4_; subst f5_))
 refine hK.out _ _ ⟨zx_ BK345 0, zx_ BK345 1, zx_ BK356 0, zx_ BK356 1, zx_ BK406 0, zx_ BK406 1⟩ (fun hHeld => ?_)
 clear hK K
 refine zq_ (some 119) (h := ?_)
 refine yo_ 39 (some 120) (fun K hK => ?_)
 refine yg_ Try.func28 #[.slice Ao176 y454.length co176] ?_
 with_reducible refine (carousellaw6_row.calls (fun k_ => some k_ = (.slice Ao176 y454.length co176 : Value).ownBlock) (.slice Ao176 y454.length co176) y454 t457 t460 w _ ?side1 ?side2 A24.out).mono ?_
 (case side1 => repeat (first | (with_reducible first | exact HB.out | apply below_alloc | apply pw_below_drewN | apply below_drew1 | refine below_set ?_ GE345.out | refine below_set ?_ GE356.out | refine below_set ?_ GE406.out | refine below_set ?_ GE439.out) | exact HB.out))
 (case side2 => exact Kd.R_tight rfl HO456.out)
 rintro e w177 ⟨v458, v461, rfl, ho0, ho1, hb, hkp⟩
 refine ⟨_, rfl, ?_⟩
 replace BK345 := Aside0.mk (blk_kept (zb_ BK345) hkp (fun hs_ => (fun e_ => (Kd.R_ne HO456.out BK345.out (by decide)) e_) hs_))
 replace BK356 := Aside0.mk (blk_kept (zb_ BK356) hkp (fun hs_ => (fun e_ => (Kd.R_ne HO456.out BK356.out (by decide)) e_) hs_))
 replace BK406 := Aside0.mk (blk_kept (zb_ BK406) hkp (fun hs_ => (fun e_ => (Kd.R_ne HO456.out BK406.out (by decide)) e_) hs_))
 replace BK439 := Aside0.mk (blk_kept (zb_ BK439) hkp (fun hs_ => (fun e_ => (Kd.R_ne HO456.out BK439.out (by decide)) e_) hs_))
 have HO459 := Aside0.mk (Kd.R_mono (ok' := fun k_ => some k_ ≠ (.slice Ao49 t338.length co49 : Value).ownBlock ∧ some k_ ≠ (.slice Ao60 t349.length co60 : Value).ownBlock ∧ some k_ ≠ (.slice Ao111 t399.length co111 : Value).ownBlock ∧ some k_ ≠ (.slice Ao170 y440.length co170 : Value).ownBlock ∧ some k_ ≠ (.slice Ao172 y447.length co172 : Value).ownBlock) ho0 (fun k_ hk_ => ⟨Or.elim hk_ (fun hs_ => fun e_ => ((((Kd.R_apart' HO340.out (Kd.R_typed HO456.out) (by decide))).1 k_ e_.symm).2) hs_) (fun hn_ => (Kd.fresh' (Kd.R_lt (zr_ HO340.out)) k_ hn_)), Or.elim hk_ (fun hs_ => fun e_ => ((((Kd.R_apart' HO351.out (Kd.R_typed HO456.out) (by decide))).1 k_ e_.symm).2) hs_) (fun hn_ => (Kd.fresh' (Kd.R_lt (zr_ HO351.out)) k_ hn_)), Or.elim hk_ (fun hs_ => fun e_ => ((((Kd.R_apart' HO401.out (Kd.R_typed HO456.out) (by decide))).1 k_ e_.symm).2) hs_) (fun hn_ => (Kd.fresh' (Kd.R_lt (zr_ HO401.out)) k_ hn_)), Or.elim hk_ (fun hs_ => fun e_ => ((((Kd.R_apart' HO442.out (Kd.R_typed HO456.out) (by decide))).1 k_ e_.symm).2) hs_) (fun hn_ => (Kd.fresh' (Kd.R_lt (zr_ HO442.out)) k_ hn_)), Or.elim hk_ (fun hs_ => fun e_ => ((((Kd.R_apart' HO449.out (Kd.R_typed HO456.out) (by decide))).1 k_ e_.symm).2) hs_) (fun hn_ => (Kd.fresh' (Kd.R_lt (zr_ HO449.out)) k_ hn_))⟩))
 replace HO340 := Aside0.mk (Kd.R_mono (ok' := fun k_ => some k_ ≠ (.slice Ao60 t349.length co60 : Value).ownBlock ∧ some k_ ≠ (.slice Ao111 t399.length co111 : Value).ownBlock ∧ some k_ ≠ (.slice Ao170 y440.length co170 : Value).ownBlock ∧ some k_ ≠ (.slice Ao172 y447.length co172 : Value).ownBlock ∧ some k_ ≠ (v458 : Value).ownBlock) (Kd.R_keptB ((Kd.R_apart' HO340.out (Kd.R_typed HO456.out) (by decide))) hkp (fun k_ hk_ hs_ => (hk_.2) hs_)) (fun k_ hk_ => ⟨hk_.1.1.1, hk_.1.1.2.1, hk_.1.1.2.2.1, hk_.1.1.2.2.2, fun e_ => Or.elim (ho0.1 k_ e_.symm) (fun hs_ => hk_.2.1 hs_) (fun hn_ => Nat.not_le.2 hk_.2.2 hn_)⟩))
 replace HO351 := Aside0.mk (Kd.R_mono (ok' := fun k_ => some k_ ≠ (.slice Ao49 t338.length co49 : Value).ownBlock ∧ some k_ ≠ (.slice Ao111 t399.length co111 : Value).ownBlock ∧ some k_ ≠ (.slice Ao170 y440.length co170 : Value).ownBlock ∧ some k_ ≠ (.slice Ao172 y447.length co172 : Value).ownBlock ∧ some k_ ≠ (v458 : Value).ownBlock) (Kd.R_keptB ((Kd.R_apart' HO351.out (Kd.R_typed HO456.out) (by decide))) hkp (fun k_ hk_ hs_ => (hk_.2) hs_)) (fun k_ hk_ => ⟨hk_.1.1.1, hk_.1.1.2.1, hk_.1.1.2.2.1, hk_.1.1.2.2.2, fun e_ => Or.elim (ho0.1 k_ e_.symm) (fun hs_ => hk_.2.1 hs_) (fun hn_ => Nat.not_le.2 hk_.2.2 hn_)⟩))
 replace HO401 := Aside0.mk (Kd.R_mono (ok' := fun k_ => some k_ ≠ (.slice Ao49 t338.length co49 : Value).ownBlock ∧ some k_ ≠ (.slice Ao60 t349.length co60 : Value).ownBlock ∧ some k_ ≠ (.slice Ao170 y440.length co170 : Value).ownBlock ∧ some k_ ≠ (.slice Ao172 y447.length co172 : Value).ownBlock ∧ some k_ ≠ (v458 : Value).ownBlock) (Kd.R_keptB ((Kd.R_apart' HO401.out (Kd.R_typed HO456.out) (by decide))) hkp (fun k_ hk_ hs_ => (hk_.2) hs_)) (fun k_ hk_ => ⟨hk_.1.1.1, hk_.1.1.2.1, hk_.1.1.2.2.1, hk_.1.1.2.2.2, fun e_ => Or.elim (ho0.1 k_ e_.symm) (fun hs_ => hk_.2.1 hs_) (fun hn_ => Nat.not_le.2 hk_.2.2 hn_)⟩))
 replace HO442 := Aside0.mk (Kd.R_mono (ok' := fun k_ => some k_ ≠ (.slice Ao49 t338.length co49 : Value).ownBlock ∧ some k_ ≠ (.slice Ao60 t349.length co60 : Value).ownBlock ∧ some k_ ≠ (.slice Ao111 t399.length co111 : Value).ownBlock ∧ some k_ ≠ (.slice Ao172 y447.length co172 : Value).ownBlock ∧ some k_ ≠ (v458 : Value).ownBlock) (Kd.R_keptB ((Kd.R_apart' HO442.out (Kd.R_typed HO456.out) (by decide))) hkp (fun k_ hk_ hs_ => (hk_.2) hs_)) (fun k_ hk_ => ⟨hk_.1.1.1, hk_.1.1.2.1, hk_.1.1.2.2.1, hk_.1.1.2.2.2, fun e_ => Or.elim (ho0.1 k_ e_.symm) (fun hs_ => hk_.2.1 hs_) (fun hn_ => Nat.not_le.2 hk_.2.2 hn_)⟩))
 replace HO449 := Aside0.mk (Kd.R_mono (ok' := fun k_ => some k_ ≠ (.slice Ao49 t338.length co49 : Value).ownBlock ∧ some k_ ≠ (.slice Ao60 t349.length co60 : Value).ownBlock ∧ some k_ ≠ (.slice Ao111 t399.length co111 : Value).ownBlock ∧ some k_ ≠ (.slice Ao170 y440.length co170 : Value).ownBlock ∧ some k_ ≠ (v458 : Value).ownBlock) (Kd.R_keptB ((Kd.R_apart' HO449.out (Kd.R_typed HO456.out) (by decide))) hkp (fun k_ hk_ hs_ => (hk_.2) hs_)) (fun k_ hk_ => ⟨hk_.1.1.1, hk_.1.1.2.1, hk_.1.1.2.2.1, hk_.1.1.2.2.2, fun e_ => Or.elim (ho0.1 k_ e_.symm) (fun hs_ => hk_.2.1 hs_) (fun hn_ => Nat.not_le.2 hk_.2.2 hn_)⟩))
 have HO462 := Aside0.mk (Kd.R_mono (ok' := fun k_ => some k_ ≠ (.slice Ao51 t341.length co51 : Value).ownBlock ∧ some k_ ≠ (.slice Ao64 t352.length co64 : Value).ownBlock ∧ some k_ ≠ (.slice Ao116 t402.length co116 : Value).ownBlock ∧ some k_ ≠ (.slice Ao169 y443.length co169 : Value).ownBlock ∧ some k_ ≠ (.slice Ao171 y450.length co171 : Value).ownBlock) ho1 (fun k_ hk_ => ⟨Or.elim hk_ (fun hs_ => fun e_ => (((HO343.out).1 k_ e_.symm).2) hs_) (fun hn_ => (Kd.fresh' (Kd.R_lt (zr_ HO343.out)) k_ hn_)), Or.elim hk_ (fun hs_ => fun e_ => (((HO354.out).1 k_ e_.symm).2) hs_) (fun hn_ => (Kd.fresh' (Kd.R_lt (zr_ HO354.out)) k_ hn_)), Or.elim hk_ (fun hs_ => fun e_ => (((HO404.out).1 k_ e_.symm).2) hs_) (fun hn_ => (Kd.fresh' (Kd.R_lt (zr_ HO404.out)) k_ hn_)), Or.elim hk_ (fun hs_ => fun e_ => (((HO445.out).1 k_ e_.symm).2) hs_) (fun hn_ => (Kd.fresh' (Kd.R_lt (zr_ HO445.out)) k_ hn_)), Or.elim hk_ (fun hs_ => fun e_ => (((HO452.out).1 k_ e_.symm).2) hs_) (fun hn_ => (Kd.fresh' (Kd.R_lt (zr_ HO452.out)) k_ hn_))⟩))
 replace HO343 := Aside0.mk (Kd.R_mono (ok' := fun k_ => some k_ ≠ (.slice Ao64 t352.length co64 : Value).ownBlock ∧ some k_ ≠ (.slice Ao116 t402.length co116 : Value).ownBlock ∧ some k_ ≠ (.slice Ao169 y443.length co169 : Value).ownBlock ∧ some k_ ≠ (.slice Ao171 y450.length co171 : Value).ownBlock ∧ some k_ ≠ (v461 : Value).ownBlock) (Kd.R_keptB (HO343.out) hkp (fun k_ hk_ hs_ => (hk_.2) hs_)) (fun k_ hk_ => ⟨hk_.1.1.1, hk_.1.1.2.1, hk_.1.1.2.2.1, hk_.1.1.2.2.2, fun e_ => Or.elim (ho1.1 k_ e_.symm) (fun hs_ => hk_.2.1 hs_) (fun hn_ => Nat.not_le.2 hk_.2.2 hn_)⟩))
 replace HO354 := Aside0.mk (Kd.R_mono (ok' := fun k_ => some k_ ≠ (.slice Ao51 t341.length co51 : Value).ownBlock ∧ some k_ ≠ (.slice Ao116 t402.length co116 : Value).ownBlock ∧ some k_ ≠ (.slice Ao169 y443.length co169 : Value).ownBlock ∧ some k_ ≠ (.slice Ao171 y450.length co171 : Value).ownBlock ∧ some k_ ≠ (v461 : Value).ownBlock) (Kd.R_keptB (HO354.out) hkp (fun k_ hk_ hs_ => (hk_.2) hs_)) (fun k_ hk_ => ⟨hk_.1.1.1, hk_.1.1.2.1, hk_.1.1.2.2.1, hk_.1.1.2.2.2, fun e_ => Or.elim (ho1.1 k_ e_.symm) (fun hs_ => hk_.2.1 hs_) (fun hn_ => Nat.not_le.2 hk_.2.2 hn_)⟩))
 replace HO404 := Aside0.mk (Kd.R_mono (ok' := fun k_ => some k_ ≠ (.slice Ao51 t341.length co51 : Value).ownBlock ∧ some k_ ≠ (.slice Ao64 t352.length co64 : Value).ownBlock ∧ some k_ ≠ (.slice Ao169 y443.length co169 : Value).ownBlock ∧ some k_ ≠ (.slice Ao171 y450.length co171 : Value).ownBlock ∧ some k_ ≠ (v461 : Value).ownBlock) (Kd.R_keptB (HO404.out) hkp (fun k_ hk_ hs_ => (hk_.2) hs_)) (fun k_ hk_ => ⟨hk_.1.1.1, hk_.1.1.2.1, hk_.1.1.2.2.1, hk_.1.1.2.2.2, fun e_ => Or.elim (ho1.1 k_ e_.symm) (fun hs_ => hk_.2.1 hs_) (fun hn_ => Nat.not_le.2 hk_.2.2 hn_)⟩))
 replace HO445 := Aside0.mk (Kd.R_mono (ok' := fun k_ => some k_ ≠ (.slice Ao51 t341.length co51 : Value).ownBlock ∧ some k_ ≠ (.slice Ao64 t352.length co64 : Value).ownBlock ∧ some k_ ≠ (.slice Ao116 t402.length co116 : Value).ownBlock ∧ some k_ ≠ (.slice Ao171 y450.length co171 : Value).ownBlock ∧ some k_ ≠ (v461 : Value).ownBlock) (Kd.R_keptB (HO445.out) hkp (fun k_ hk_ hs_ => (hk_.2) hs_)) (fun k_ hk_ => ⟨hk_.1.1.1, hk_.1.1.2.1, hk_.1.1.2.2.1, hk_.1.1.2.2.2, fun e_ => Or.elim (ho1.1 k_ e_.symm) (fun hs_ => hk_.2.1 hs_) (fun hn_ => Nat.not_le.2 hk_.2.2 hn_)⟩))
 replace HO452 := Aside0.mk (Kd.R_mono (ok' := fun k_ => some k_ ≠ (.slice Ao51 t341.length co51 : Value).ownBlock ∧ some k_ ≠ (.slice Ao64 t352.length co64 : Value).ownBlock ∧ some k_ ≠ (.slice Ao116 t402.length co116 : Value).ownBlock ∧ some k_ ≠ (.slice Ao169 y443.length co169 : Value).ownBlock ∧ some k_ ≠ (v461 : Value).ownBlock) (Kd.R_keptB (HO452.out) hkp (fun k_ hk_ hs_ => (hk_.2) hs_)) (fun k_ hk_ => ⟨hk_.1.1.1, hk_.1.1.2.1, hk_.1.1.2.2.1, hk_.1.1.2.2.2, fun e_ => Or.elim (ho1.1 k_ e_.symm) (fun hs_ => hk_.2.1 hs_) (fun hn_ => Nat.not_le.2 hk_.2.2 hn_)⟩))
 replace HB := Aside0.mk (hb)
 clear HO456
 (try clear hb)
 (try clear hkp)
 (try clear ho0)
 (try clear ho1)
 obtain ⟨Ao178, co178, eo178⟩ := Kd.R_slice HO459.out
 (first | subst eo178 | (injection eo178 with f1_ f2_ f3_; have f4_ := f1_.symm; have f5_ := f3_.symm; clear f1_ f2_ f3_; subst f4_; subst f5_))
 obtain ⟨Ao179, co179, eo179⟩ := Kd.R_slice HO462.out
 (first | subst eo179 | (injection eo179 with f1_ f2_ f3_; have f4_ := f1_.symm; have f5_ := f3_.symm; clear f1_ f2_ f3_; subst f4_; subst f5_))
 refine hK.out _ _ ⟨zx_ BK345 0, zx_ BK345 1, zx_ BK356 0, zx_ BK356 1, zx_ BK406 0, zx_ BK406 1⟩ (fun hHeld => ?_)
 clear hK K
 refine zq_ (some 120) (h := ?_)
 refine yo_ 40 (some 121) (fun K hK => ?_)
 refine yg_ Try.func21 #[.agg #[.slice Ao111 t399.length co111, .slice Ao116 t402.length co116], .agg #[.slice Ao178 t457.length co178, .slice Ao179 t460.length co179]] ?_
 with_reducible refine (tens_Same.calls k _ _ t399 _ _ t402 _ _ t457 _ _ t460 true _ ?side1 ?side2 ?side3 ?side4 ?side5 ?side6 ?side7 ?side8 A25.out).mono ?_
 (case side1 => exact zk_ ((Kd.R_reads' HO401.out).2.2))
 (case side2 => exact (Kd.R_reads' HO401.out).2.1)
 (case side3 => exact zk_ ((Kd.R_reads' HO404.out).2.2))
 (case side4 => exact (Kd.R_reads' HO404.out).2.1)
 (case side5 => exact zk_ ((Kd.R_reads' HO459.out).2.2))
 (case side6 => exact (Kd.R_reads' HO459.out).2.1)
 (case side7 => exact zk_ ((Kd.R_reads' HO462.out).2.2))
 (case side8 => exact (Kd.R_reads' HO462.out).2.1)
 rintro e w180 ⟨rfl, hb⟩
 refine ⟨_, rfl, ?_⟩
 replace HO340 := zy_ HO340 hb
 replace HO343 := zy_ HO343 hb
 replace HO351 := zy_ HO351 hb
 replace HO354 := zy_ HO354 hb
 replace HO401 := zy_ HO401 hb
 replace HO404 := zy_ HO404 hb
 replace HO442 := zy_ HO442 hb
 replace HO445 := zy_ HO445 hb
 replace HO449 := zy_ HO449 hb
 replace HO452 := zy_ HO452 hb
 replace HO459 := zy_ HO459 hb
 replace HO462 := zy_ HO462 hb
 replace BK345 := za_ BK345 hb
 replace BK356 := za_ BK356 hb
 replace BK406 := za_ BK406 hb
 replace BK439 := za_ BK439 hb
 replace HB := Aside0.mk (below_step (zw4_ HB GE345 GE356 GE406 GE439) hb)
 (try clear hb)
 (try clear hb2)
 (try clear hk)
 (try clear hi)
 refine hK.out _ _ ⟨zx_ BK345 0, zx_ BK345 1, zx_ BK356 0, zx_ BK356 1, zx_ BK406 0, zx_ BK406 1⟩ (fun hHeld => ?_)
 clear hK K
 refine zq_ (some 121) (h := ?_)
 refine yp_ ?_ 41 122
 refine yp_ ?_ 42 123
 refine yp_ ?_ 43 124
 refine yp_ ?_ 44 125
 refine yp_ ?_ 45 126
 refine yp_ ?_ 46 127
 refine yp_ ?_ 47 128
 refine yp_ ?_ 48 129
 refine yp_ ?_ 49 130
 refine yp_ ?_ 50 131
 refine yp_ ?_ 51 132
 refine yp_ ?_ 52 133
 refine yp_ ?_ 53 134
 refine yp_ ?_ 54 0
 refine done_ (done_of HT_.out (by kernel_rfl)) ?_
 try go_wp2
 go_ret
 exact ⟨z0_, zw4_ HB GE345 GE356 GE406 GE439⟩

/-- THE ONE PURE STATEMENT of carousellaw6_TensKnown: yours. -/
def carousellaw6_TensKnown.Pure : Prop := ∃ k, carousellaw6_TensKnown.f k  = some true
theorem carousellaw6_TensKnown.walk (P : carousellaw6_TensKnown.Pure)  (w : World)  :
  Calls Try.prog 9 #[] w fun e w' => e = .returned (.bool true) ∧ Below w.heap.size w w' := by
 obtain ⟨k, h⟩ := P  
 refine (carousellaw6_TensKnown.calls k  true w h).mono ?_
 rintro e w' ⟨rfl, hd⟩
 exact ⟨rfl, hd⟩

end Go.Proofs.Ytbdhabpplidgfaa.PTensKnown
