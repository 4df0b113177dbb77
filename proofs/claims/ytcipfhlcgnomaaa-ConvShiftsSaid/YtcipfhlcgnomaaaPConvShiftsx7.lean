/- The functions that the law ConvShifts reaches, as Lean functions, and that each call of the Go function does what its Lean function says, wherever that one answers. Written by a program of mine over the print of the kit; Lean checks it. -/
import Derived.Test.YtcipfhlcgnomaaaPConvShiftsx0
import Derived.Test.YtcipfhlcgnomaaaPConvShiftsx5
import Derived.Test.YtcipfhlcgnomaaaPConvShiftsx6
namespace Go.Proofs.Ytcipfhlcgnomaaa.PConvShifts
open Go.RowKit Go.Proofs.YtcipfhlcgnomaaaW.PrintWords Go.Proofs.YtcipfhlcgnomaaaW.PrintLast Go.Proofs.YtcipfhlcgnomaaaW.PrintMore
attribute [local go_sem] max2_int min2_int max_two min_two max_three min_three max_four min_four   -- for this text's walks alone
set_option linter.unusedVariables false
set_option linter.unusedSimpArgs false

/-! ### carousellaw8_ConvShifts: function 4 -/
def carousellaw8_ConvShifts.j0 : Nat → Int → List Int → List Int → Bool → Option (Bool)
 | 0, _, _, _, _ => none
 | k + 1, x0, x1, x2, x28 => if x28 = true then (some true) else ((carousellaw8_windows.f 1 1 x2).bind fun t241 => ((some (([x0] : List Int) : List Int)).bind fun y245 => (if y245.length + x1.length < 17592186044416 then ((some (y245 ++ x1 : List Int)).bind fun y248 => ((carousellaw8_rows.f 1 y248).bind fun t251 => ((conv_Row.f k t251 y248 t241 x2 1).bind fun bt254 => ((carousellaw8_rows.f 1 x1).bind fun t262 => ((conv_Row.f k t262 x1 t241 x2 1).bind fun bt265 => (if bt254.2.2 = 0 then (if bt265.2.2 = 0 then (if (bt254.2.1.length : Int) = (wrap64 ((bt265.2.1.length : Int) + 1)) then (if 1 ≤ (bt254.2.1.length : Int) then ((some (bt254.2.1.drop 1 : List Int)).bind fun y273 => ((carousellaw8_rows.f 1 y273).bind fun t278 => ((carouselref5_Alike.f k t278 y273 bt265.1 bt265.2.1).bind fun t281 => (some t281)))) else (none)) else (none)) else (none)) else (none))))))) else (none))))
def carousellaw8_ConvShifts.f (k : Nat) (a0 : Int) (l1 : List Int) (l2 : List Int) : Option (Bool) := (carousellaw8_awake.f k).bind fun t240 => (if t240 = true then (if (l2.length : Int) < 1 then (carousellaw8_ConvShifts.j0 k a0 l1 l2 true) else (if (l1.length : Int) < (l2.length : Int) then (carousellaw8_ConvShifts.j0 k a0 l1 l2 true) else (carousellaw8_ConvShifts.j0 k a0 l1 l2 (decide ((l1.length : Int) > 60))))) else (none))
theorem carousellaw8_ConvShifts.mono_l : ∀ k, (∀ y0 y1 y2 y3, LeO (carousellaw8_ConvShifts.j0 k y0 y1 y2 y3) (carousellaw8_ConvShifts.j0 (k + 1) y0 y1 y2 y3))
 | 0 => fun _ _ _ _ r h => by simp [carousellaw8_ConvShifts.j0] at h
 | k + 1 => by
  have ih0 := carousellaw8_ConvShifts.mono_l k
  ·intro y0 y1 y2 y3
   unfold carousellaw8_ConvShifts.j0
   repeat' first
   | (with_reducible exact ih0 _ _ _ _)
   | (with_reducible exact carouselref5_Alike.mono _ _ _ _ _)
   | (with_reducible exact conv_Row.mono _ _ _ _ _ _)
   | (with_reducible exact LeO.refl _)
   | (with_reducible exact LeO.none _)
   | (with_reducible refine LeO.ite ?_ ?_)
   | (with_reducible refine LeO.bind ?_ (fun _ => ?_))
   | exact ih0 _ _ _ _
   | exact carouselref5_Alike.mono _ _ _ _ _
   | exact conv_Row.mono _ _ _ _ _ _
   | exact LeO.none _
   | refine LeO.ite ?_ ?_
   | refine LeO.bind ?_ (fun _ => ?_)
theorem carousellaw8_ConvShifts.mono : ∀ a0 a1 a2 k, LeO (carousellaw8_ConvShifts.f k a0 a1 a2) (carousellaw8_ConvShifts.f (k + 1) a0 a1 a2) := by
 intro a0 a1 a2 k
 have ih0 := carousellaw8_ConvShifts.mono_l k
 unfold carousellaw8_ConvShifts.f
 repeat' first
   | (with_reducible exact ih0 _ _ _ _)
   | (with_reducible exact carousellaw8_awake.mono _)
   | (with_reducible exact LeO.refl _)
   | (with_reducible exact LeO.none _)
   | (with_reducible refine LeO.ite ?_ ?_)
   | (with_reducible refine LeO.bind ?_ (fun _ => ?_))
   | exact ih0 _ _ _ _
   | exact carousellaw8_awake.mono _
   | exact LeO.none _
   | refine LeO.ite ?_ ?_
   | refine LeO.bind ?_ (fun _ => ?_)
def carousellaw8_ConvShifts.T6 : Bool × List (List Nat × List Nat) := (true, [([], []), ([0], [0]), ([], []), ([1, 2], [1, 2]), ([3, 3], [3]), ([], []), ([4, 5, 4], [4, 5]), ([6], [6]), ([7], [7]), ([7], [7]), ([], []), ([10, 8, 6, 0, 1, 2, 3, 4, 5, 6, 7, 8, 10], [8, 10]), ([9, 11, 0, 1, 2, 3, 4, 5, 6, 7, 8, 9, 10, 11], [9])])
def carousellaw8_ConvShifts.B6 : List Nat := [0, 1, 0, 7, 15, 0, 63, 127, 255, 255, 0, 1535, 4095]
theorem carousellaw8_ConvShifts.tab6 : rtab .any (opsOf Try.f4 6) = carousellaw8_ConvShifts.T6 := by kernel_rfl
theorem carousellaw8_ConvShifts.bits6 : waitsOk carousellaw8_ConvShifts.T6.2 carousellaw8_ConvShifts.B6 = true := by kernel_rfl
def carousellaw8_ConvShifts.T7 : Bool × List (List Nat × List Nat) := (true, [([], []), ([0], [0]), ([], []), ([1, 2, 1], [1, 2]), ([3], [3]), ([4], [4]), ([4], [4]), ([], []), ([7, 5, 3, 0, 1, 2, 3, 4, 5, 7], [5, 7]), ([6, 8, 0, 1, 2, 3, 4, 5, 6, 7, 8], [6])])
def carousellaw8_ConvShifts.B7 : List Nat := [0, 1, 0, 7, 15, 31, 31, 0, 191, 511]
theorem carousellaw8_ConvShifts.tab7 : rtab .any (opsOf Try.f4 7) = carousellaw8_ConvShifts.T7 := by kernel_rfl
theorem carousellaw8_ConvShifts.bits7 : waitsOk carousellaw8_ConvShifts.T7.2 carousellaw8_ConvShifts.B7 = true := by kernel_rfl
def carousellaw8_ConvShifts.T8 : Bool × List (List Nat × List Nat) := (true, [([], []), ([0], [0]), ([1], [1]), ([2], [2]), ([3, 2], [2, 3]), ([2, 4], [2, 4]), ([5, 2], [5]), ([6], [6]), ([7, 6], [6, 7]), ([8, 6], [6, 8]), ([6], [6]), ([10, 6], [6, 10]), ([11, 6], [6, 11]), ([12, 6], [6, 12]), ([9, 13, 6], [6, 9, 13]), ([6, 14], [6, 14]), ([15, 6], [15]), ([16], [16]), ([17, 16], [16, 17]), ([18, 16], [16, 18]), ([19, 16, 16], [16, 19]), ([16], [16]), ([20, 21, 20, 16], [16, 20, 21]), ([16, 22], [16, 22]), ([23, 22, 0, 1, 2, 3, 4, 5, 6, 7, 8, 9, 10, 11, 12, 13, 14, 15, 16, 17, 18, 19, 20, 21, 22, 23], [23])])
def carousellaw8_ConvShifts.B8 : List Nat := [0, 1, 3, 7, 15, 31, 63, 127, 255, 511, 127, 1151, 3199, 7295, 16383, 32767, 65535, 131071, 262143, 524287, 1048575, 131071, 4194303, 8388607, 16777215]
theorem carousellaw8_ConvShifts.tab8 : rtab .any (opsOf Try.f4 8) = carousellaw8_ConvShifts.T8 := by kernel_rfl
theorem carousellaw8_ConvShifts.bits8 : waitsOk carousellaw8_ConvShifts.T8.2 carousellaw8_ConvShifts.B8 = true := by kernel_rfl
set_option maxHeartbeats 8000000 in
set_option maxRecDepth 100000 in
theorem carousellaw8_ConvShifts.calls (k : Nat) (a0 : Int) (A1 : Option Addr) (c1 : Nat) (l1 : List Int) (A2 : Option Addr) (c2 : Nat) (l2 : List Int) (r : Bool) (w : World) (hr1 : Kd.C (Kd.int .i64) w A1 l1.length l1) (hc1 : l1.length ≤ c1) (hr2 : Kd.C (Kd.int .i64) w A2 l2.length l2) (hc2 : l2.length ≤ c2) (h : carousellaw8_ConvShifts.f k a0 l1 l2 = some r) :
  Calls Try.prog 4 #[.int .i64 a0, .slice A1 l1.length c1, .slice A2 l2.length c2] w fun e w' => e = .returned (.bool r) ∧ Below w.heap.size w w' := by
 have hu25 := Try.underlying25
 have HR1 := Aside0.mk hr1
 have HC1 := Aside0.mk hc1
 clear hr1 hc1
 have HR2 := Aside0.mk hr2
 have HC2 := Aside0.mk hc2
 clear hr2 hc2
 have HB := Aside0.mk (Below.refl w.heap.size w)
 have H : ((carousellaw8_awake.f k).bind fun t240 => (if t240 = true then (if (l2.length : Int) < 1 then (carousellaw8_ConvShifts.j0 k a0 l1 l2 true) else (if (l1.length : Int) < (l2.length : Int) then (carousellaw8_ConvShifts.j0 k a0 l1 l2 true) else (carousellaw8_ConvShifts.j0 k a0 l1 l2 (decide ((l1.length : Int) > 60))))) else (none))) = some r := h
 clear h
 replace H := Option.bind_eq_some_iff.mp H
 obtain ⟨t240, A40, H⟩ := H
 (try dsimp only at H)
 have A4 := Aside0.mk A40
 clear A40
 by_cases c5 : t240 = true
 rotate_left
 ·replace c5 := Bool.eq_false_iff.mpr c5
  subst c5
  have H1 : (none) = some r := by rw [if_neg (show ¬ (false = true) by decide)] at H; exact H
  clear H
  have H := H1
  clear H1
  exact absurd H (by simp)
 subst c5
 have H1 := H
 rw [if_pos rfl] at H1
 clear H
 have H := H1
 clear H1
 have HC6 := Aside0.mk H
 clear H
 go_enter Try.func4, Try.ntmps4
 go_upto_region 3 with (first | ((with_reducible refine gate_callee (f := 11) rfl ?_); refine zg_ (some 12) Try.func11 #[] (h := ?_); (with_reducible refine (carousellaw8_awake.calls k  true _ A4.out).mono ?_); rintro e w7 ⟨rfl, hb⟩; refine ⟨_, rfl, ?_⟩; replace HB := Aside0.mk (below_step (zw0_ HB) hb); (try clear hb)))
 (try simp only [Act.put, List.setIfInBounds_toArray, List.set_cons_zero, List.set_cons_succ])
 go_cut [28] (fun v28 wc => ∃ (kq : Nat) (x28_5 : Bool), v28 = .bool x28_5 ∧ Aside0 (carousellaw8_ConvShifts.j0 kq a0 l1 l2 x28_5 = some r) ∧ Aside0 (kq ≤ k) ∧ Aside0 (Below w.heap.size w wc))
 case first =>
  have H := HC6.out
  clear HC6
  by_cases c8 : (l2.length : Int) < 1
  ·rw [if_pos c8] at H
   have c8b0 : decide ((l2.length : Int) < 1) = true := decide_eq_true c8
   have c8b1 : decide (l2.length < 1) = true := decide_eq_true (by omega)
   clear c8
   (first | rw [c8b0] | (simp only [i64_w, i32_w]; rw [c8b0]) | rw [c8b1] | skip)
   have H' := Aside0.mk H
   clear H
   go_wp2
   go_meet
   case rel => exact ⟨_, (true), z1_, H', ⟨by first | omega | exact Nat.le_refl _⟩, ⟨zw0_ HB⟩⟩
  rw [if_neg c8] at H
  have c8b0 : decide ((l2.length : Int) < 1) = false := decide_eq_false c8
  have c8b1 : decide (l2.length < 1) = false := decide_eq_false (by omega)
  clear c8
  (first | rw [c8b0] | (simp only [i64_w, i32_w]; rw [c8b0]) | rw [c8b1] | skip)
  by_cases c9 : (l1.length : Int) < (l2.length : Int)
  ·rw [if_pos c9] at H
   have c9b0 : decide ((l1.length : Int) < (l2.length : Int)) = true := decide_eq_true c9
   have c9b1 : decide (l1.length < l2.length) = true := decide_eq_true (Int.ofNat_lt.mp c9)
   clear c9
   have H' := Aside0.mk H
   clear H
   go_wp2
   go_meet
   case rel => exact ⟨_, (true), z1_, H', ⟨by first | omega | exact Nat.le_refl _⟩, ⟨zw0_ HB⟩⟩
  rw [if_neg c9] at H
  have c9b0 : decide ((l1.length : Int) < (l2.length : Int)) = false := decide_eq_false c9
  have c9b1 : decide (l1.length < l2.length) = false := decide_eq_false (fun h => c9 (Int.ofNat_lt.mpr h))
  clear c9
  have H' := Aside0.mk H
  clear H
  go_wp2
  go_meet
  case rel => exact ⟨_, (decide ((l1.length : Int) > 60)), z1_, H', ⟨by first | omega | exact Nat.le_refl _⟩, ⟨zw0_ HB⟩⟩
 case rest =>
  clear HC6
  try clear c1
  try clear c2
  try clear p2
  try clear c4
  try clear c5
  try clear c8
  try clear c8b0
  try clear c8b1
  try clear c9
  try clear c9b0
  try clear c9b1
  obtain ⟨kq, x28_5, rfl, HA, HJ5, HB⟩ := hcut
  cases kq with
  | zero => exact absurd HA.out (by simp [carousellaw8_ConvShifts.j0])
  | succ kj5 =>
   have H := HA.out
   clear HA
   simp only [carousellaw8_ConvShifts.j0] at H
   by_cases c10 : x28_5 = true
   ·subst c10
    have H1 : (some true) = some r := by rw [if_pos rfl] at H; exact H
    clear H
    have H := H1
    clear H1
    obtain rfl := Option.some.inj H
    go_wp2
    go_ret
    exact ⟨z0_, zw0_ HB⟩
   replace c10 := Bool.eq_false_iff.mpr c10
   subst c10
   have H1 := H
   rw [if_neg (show ¬ (false = true) by decide)] at H1
   clear H
   have H := H1
   clear H1
   replace H := Option.bind_eq_some_iff.mp H
   obtain ⟨t241, A110, H⟩ := H
   (try dsimp only at H)
   have A11 := Aside0.mk A110
   clear A110
   obtain ⟨y245, hy245⟩ : ∃ y_ : List Int, y_ = (([a0] : List Int)) := ⟨_, rfl⟩
   replace H : (if y245.length + l1.length < 17592186044416 then ((some (y245 ++ l1 : List Int)).bind fun y248 => ((carousellaw8_rows.f 1 y248).bind fun t251 => ((conv_Row.f kj5 t251 y248 t241 l2 1).bind fun bt254 => ((carousellaw8_rows.f 1 l1).bind fun t262 => ((conv_Row.f kj5 t262 l1 t241 l2 1).bind fun bt265 => (if bt254.2.2 = 0 then (if bt265.2.2 = 0 then (if (bt254.2.1.length : Int) = (wrap64 ((bt265.2.1.length : Int) + 1)) then (if 1 ≤ (bt254.2.1.length : Int) then ((some (bt254.2.1.drop 1 : List Int)).bind fun y273 => ((carousellaw8_rows.f 1 y273).bind fun t278 => ((carouselref5_Alike.f kj5 t278 y273 bt265.1 bt265.2.1).bind fun t281 => (some t281)))) else (none)) else (none)) else (none)) else (none))))))) else (none)) = some r := by first | (rw [hy245]; with_reducible exact H) | (have H2_ := (Option.bind_some _ _).symm.trans H; rw [hy245]; with_reducible exact H2_) | (have H2_ := (Option.bind_some _ _).symm.trans H; with_reducible exact H2_) | with_reducible exact H | (rw [hy245]; exact H) | exact H
   have Ny245 := Aside0.mk hy245
   clear hy245
   by_cases c12 : y245.length + l1.length < 17592186044416
   rotate_left
   ·rw [if_neg c12] at H
    exact absurd H (by simp)
   rw [if_pos c12] at H
   have LMc12 := Aside0.mk c12
   clear c12
   obtain ⟨y248, hy248⟩ : ∃ y_ : List Int, y_ = (y245 ++ l1) := ⟨_, rfl⟩
   replace H : ((carousellaw8_rows.f 1 y248).bind fun t251 => ((conv_Row.f kj5 t251 y248 t241 l2 1).bind fun bt254 => ((carousellaw8_rows.f 1 l1).bind fun t262 => ((conv_Row.f kj5 t262 l1 t241 l2 1).bind fun bt265 => (if bt254.2.2 = 0 then (if bt265.2.2 = 0 then (if (bt254.2.1.length : Int) = (wrap64 ((bt265.2.1.length : Int) + 1)) then (if 1 ≤ (bt254.2.1.length : Int) then ((some (bt254.2.1.drop 1 : List Int)).bind fun y273 => ((carousellaw8_rows.f 1 y273).bind fun t278 => ((carouselref5_Alike.f kj5 t278 y273 bt265.1 bt265.2.1).bind fun t281 => (some t281)))) else (none)) else (none)) else (none)) else (none)))))) = some r := by first | (rw [hy248]; with_reducible exact H) | (have H2_ := (Option.bind_some _ _).symm.trans H; rw [hy248]; with_reducible exact H2_) | (have H2_ := (Option.bind_some _ _).symm.trans H; with_reducible exact H2_) | with_reducible exact H | (rw [hy248]; exact H) | exact H
   have Ny248 := Aside0.mk hy248
   clear hy248
   replace H := Option.bind_eq_some_iff.mp H
   obtain ⟨t251, A130, H⟩ := H
   (try dsimp only at H)
   have A13 := Aside0.mk A130
   clear A130
   replace H := Option.bind_eq_some_iff.mp H
   obtain ⟨⟨t254, t257, t260⟩, A140, H⟩ := H
   (try dsimp only at H)
   have A14 := Aside0.mk A140
   clear A140
   replace H := Option.bind_eq_some_iff.mp H
   obtain ⟨t262, A150, H⟩ := H
   (try dsimp only at H)
   have A15 := Aside0.mk A150
   clear A150
   replace H := Option.bind_eq_some_iff.mp H
   obtain ⟨⟨t265, t268, t271⟩, A160, H⟩ := H
   (try dsimp only at H)
   have A16 := Aside0.mk A160
   clear A160
   by_cases c17 : t260 = 0
   rotate_left
   ·rw [if_neg c17] at H
    have c17b0 : (t260 == 0) = false := beq_eq_false_iff_ne.mpr c17
    have c17b1 : (t260 != 0) = true := bne_iff_ne.mpr c17
    exact absurd H (by simp)
   rw [if_pos c17] at H
   have c17b0 : (t260 == 0) = true := beq_iff_eq.mpr c17
   have c17b1 : (t260 != 0) = false := bne_eq_false_iff_eq.mpr c17
   clear c17
   by_cases c18 : t271 = 0
   rotate_left
   ·rw [if_neg c18] at H
    have c18b0 : (t271 == 0) = false := beq_eq_false_iff_ne.mpr c18
    have c18b1 : (t271 != 0) = true := bne_iff_ne.mpr c18
    exact absurd H (by simp)
   rw [if_pos c18] at H
   have c18b0 : (t271 == 0) = true := beq_iff_eq.mpr c18
   have c18b1 : (t271 != 0) = false := bne_eq_false_iff_eq.mpr c18
   clear c18
   by_cases c19 : (t257.length : Int) = (wrap64 ((t268.length : Int) + 1))
   rotate_left
   ·rw [if_neg c19] at H
    have c19b0 : ((t257.length : Int) == (wrap64 ((t268.length : Int) + 1))) = false := beq_eq_false_iff_ne.mpr c19
    have c19b1 : ((t257.length : Int) != (wrap64 ((t268.length : Int) + 1))) = true := bne_iff_ne.mpr c19
    exact absurd H (by simp)
   rw [if_pos c19] at H
   have c19b0 : ((t257.length : Int) == (wrap64 ((t268.length : Int) + 1))) = true := beq_iff_eq.mpr c19
   have c19b1 : ((t257.length : Int) != (wrap64 ((t268.length : Int) + 1))) = false := bne_eq_false_iff_eq.mpr c19
   clear c19
   by_cases c20 : 1 ≤ (t257.length : Int)
   rotate_left
   ·rw [if_neg c20] at H
    exact absurd H (by simp)
   rw [if_pos c20] at H
   have c20b0 := eq_true c20
   have c20b1 : decide (1 ≤ (t257.length : Int)) = true := decide_eq_true c20
   clear c20
   obtain ⟨y273, hy273⟩ : ∃ y_ : List Int, y_ = (t257.drop 1) := ⟨_, rfl⟩
   replace H : ((carousellaw8_rows.f 1 y273).bind fun t278 => ((carouselref5_Alike.f kj5 t278 y273 t265 t268).bind fun t281 => (some t281))) = some r := by first | (rw [hy273]; with_reducible exact H) | (have H2_ := (Option.bind_some _ _).symm.trans H; rw [hy273]; with_reducible exact H2_) | (have H2_ := (Option.bind_some _ _).symm.trans H; with_reducible exact H2_) | with_reducible exact H | (rw [hy273]; exact H) | exact H
   have Ny273 := Aside0.mk hy273
   clear hy273
   replace H := Option.bind_eq_some_iff.mp H
   obtain ⟨t278, A210, H⟩ := H
   replace H : ((carouselref5_Alike.f kj5 t278 y273 t265 t268).bind fun t281 => (some t281)) = some r := H
   have A21 := Aside0.mk A210
   clear A210
   replace H := Option.bind_eq_some_iff.mp H
   obtain ⟨t281, A220, H⟩ := H
   replace H : (some t281) = some r := H
   have A22 := Aside0.mk A220
   clear A220
   obtain rfl := Option.some.inj H
   try go_wp2_with (first | ((with_reducible refine gate_callee (f := 16) rfl ?_); refine zg_ (some 30) Try.func16 #[.int .i64 1, .int .i64 1, .slice A2 l2.length c2] (h := ?_); (with_reducible refine (carousellaw8_windows.calls 1 1 _ _ l2 t241 _ ?side1 ?side2 A11.out).mono ?_); (case side1 => exact zk_ (Kd.C_below HR2.out HB.out)); (case side2 => exact HC2.out); rintro e w23 ⟨v242, rfl, ho0, hb⟩; refine ⟨_, rfl, ?_⟩; have HO243 := Aside0.mk (Kd.R_lower ho0 (below_size (zw0_ HB))); replace HB := Aside0.mk (below_step (zw0_ HB) hb); (try clear hb); (try clear ho0)) | ((with_reducible refine gate_dst (N := 7) rfl ?_); (try (refine gate_guard (by rfl) ?_; dsimp only)); refine box_event ?hg (N := 7) ?hd (cs := #[.slice none 0 0, .slice none 0 0]) (t := 25) ?hr ?_; (case hd => rfl); (case hg => rfl); (case hr => first | (go_simp; done) | (go_simp; rfl)); intro gb244 hg w24 hbox hb; replace HO243 := zy_ HO243 hb; have BK244 := Aside0.mk (hbox); have GW244 := Aside0.mk (zs_ hg (zw0_ HB)); have GE244 := Aside0.mk (zs_ hg (zw0_ HB)); replace HB := Aside0.mk (below_step (zw0_ HB) hb); clear hb hbox hg; obtain ⟨Ao25, co25, eo25⟩ := Kd.R_slice HO243.out; subst eo25; have hcz26_0 := zx_ (v := .slice none 0 0) BK244 0; have hcz26_1 := zx_ (v := .slice none 0 0) BK244 1; have hfz26_0 := blk_frozen BK244.out 0; have hfz26_1 := blk_frozen BK244.out 1))
   have n0_ : Aside0 (Kd.R (Kd.int .i64) 3 ((w24.setCell ⟨gb244, 0, none⟩ (.slice Ao25 t241.length co25)).setCell ⟨gb244, 1, none⟩ (.slice A2 l2.length c2)) w.heap.size (fun _ => True) (.slice Ao25 t241.length co25) t241) := ⟨zr_ (Kd.R_mono (Kd.R_far (p := ⟨gb244, 1, none⟩) (Kd.R_far (p := ⟨gb244, 0, none⟩) (Kd.R_types HO243.out BK244.out (by decide)) (fun _ hk => hk.2) (.slice Ao25 t241.length co25)) (fun _ hk => hk.2) (.slice A2 l2.length c2)) (fun _ hk => trivial))⟩
   have n1_ : Aside0 (((w24.setCell ⟨gb244, 0, none⟩ (.slice Ao25 t241.length co25)).setCell ⟨gb244, 1, none⟩ (.slice A2 l2.length c2)).heap[gb244]? = some (.cells #[.slice Ao25 t241.length co25, .slice A2 l2.length c2] 25 (0, 0))) := ⟨zo2_ BK244⟩
   have n2_ : Aside0 (Below w.heap.size w ((w24.setCell ⟨gb244, 0, none⟩ (.slice Ao25 t241.length co25)).setCell ⟨gb244, 1, none⟩ (.slice A2 l2.length c2))) := ⟨zw1_ HB GE244⟩
   (try clear HO243)
   (try clear BK244)
   (try clear HB)
   generalize ((w24.setCell ⟨gb244, 0, none⟩ (.slice Ao25 t241.length co25)).setCell ⟨gb244, 1, none⟩ (.slice A2 l2.length c2)) = w27 at n0_ n1_ n2_ ⊢
   have HO243 := n0_
   have BK244 := n1_
   have HB := n2_
   clear n0_ n1_ n2_
   replace HO243 := Aside0.mk (Kd.R_drew HO243.out)
   replace BK244 := Aside0.mk (blk_drew BK244.out)
   replace HB := Aside0.mk (below_drew1 HB.out)
   refine start_ (n := 13) (S := fun w' => w'.cell? ⟨gb244, 0, none⟩ = some (.slice Ao25 t241.length co25) ∧ w'.cell? ⟨gb244, 1, none⟩ = some (.slice A2 l2.length c2)) (ds := []) #[false, false, false, false, false, false, false, false, false, false, false, false, false] (by kernel_rfl) rfl rfl ⟨(blk_cell BK244.out 0).trans rfl, (blk_cell BK244.out 1).trans rfl⟩ (fun hHeld => ?_); refine with_tabW carousellaw8_ConvShifts.tab6 carousellaw8_ConvShifts.bits6 (fun HT_ HW_ => ?_)
   generalize w27.drew = w28 at HO243 BK244 HB hHeld ⊢
   refine yp_ ?_ 0 32
   refine yp_ ?_ 2 34
   refine yt2_ ?_ 5 37
   refine join_ (σ := Value × Value × Value × Value × Value × Nat) 2 #[true, true, true, true, true, true, true, true, true, true, true, false, false] (fun s_ => [(33, s_.1), (35, s_.2.1), (36, .agg #[s_.2.2.1, s_.2.1]), (38, .tuple #[.agg #[s_.2.2.2.1, s_.2.2.2.2.1], .int .i64 t260]), (8, .pointer (some ⟨s_.2.2.2.2.2, 0, none⟩)), (31, .tuple #[.agg #[s_.2.2.2.1, s_.2.2.2.2.1], .int .i64 t260]), (39, .agg #[s_.2.2.2.1, s_.2.2.2.2.1]), (40, .int .i64 t260)]) (fun s_ w' => (w'.cell? ⟨gb244, 0, none⟩ = some (.slice Ao25 t241.length co25) ∧ w'.cell? ⟨gb244, 1, none⟩ = some (.slice A2 l2.length c2)) ∧ (Kd.R (Kd.int .i64) 3 w' w.heap.size (fun k_ => some k_ ≠ (s_.2.2.1 : Value).ownBlock ∧ some k_ ≠ (s_.2.2.2.1 : Value).ownBlock) (.slice Ao25 t241.length co25) t241) ∧ (Kd.R (Kd.int .i64) 33 w' w.heap.size (fun k_ => some k_ ≠ (s_.2.2.2.2.1 : Value).ownBlock) s_.2.1 y248) ∧ (Kd.R (Kd.int .i64) 3 w' w.heap.size (fun k_ => some k_ ≠ (.slice Ao25 t241.length co25 : Value).ownBlock ∧ some k_ ≠ (s_.2.2.2.1 : Value).ownBlock) s_.2.2.1 t251) ∧ (Kd.R (Kd.int .i64) 3 w' w.heap.size (fun k_ => some k_ ≠ (.slice Ao25 t241.length co25 : Value).ownBlock ∧ some k_ ≠ (s_.2.2.1 : Value).ownBlock) s_.2.2.2.1 t254) ∧ (Kd.R (Kd.int .i64) 33 w' w.heap.size (fun k_ => some k_ ≠ (s_.2.1 : Value).ownBlock) s_.2.2.2.2.1 t257) ∧ (w'.heap[gb244]? = some (.cells #[.slice Ao25 t241.length co25, .slice A2 l2.length c2] 25 (0, 0))) ∧ (w'.heap[s_.2.2.2.2.2]? = some (.cells #[.slice none 0 0, .slice none 0 0] 25 (0, 0))) ∧ (w.heap.size ≤ s_.2.2.2.2.2) ∧ (w.heap.size ≤ s_.2.2.2.2.2) ∧ (gb244 ≠ s_.2.2.2.2.2) ∧ (s_.2.2.2.2.2 ≠ gb244) ∧ (Below w.heap.size w w')) ?_ ?_
   rotate_left
   ·intro hJ1_3_4_6_10
    refine join_ (σ := Value × Value × Value × Value × Value) 3 #[true, true, true, true, true, true, true, true, true, true, false, false, false] (fun s_ => [(33, s_.1), (35, s_.2.1), (36, .agg #[s_.2.2.1, s_.2.1]), (38, .tuple #[.agg #[s_.2.2.2.1, s_.2.2.2.2], .int .i64 t260]), (31, .tuple #[.agg #[s_.2.2.2.1, s_.2.2.2.2], .int .i64 t260]), (39, .agg #[s_.2.2.2.1, s_.2.2.2.2]), (40, .int .i64 t260)]) (fun s_ w' => (w'.cell? ⟨gb244, 0, none⟩ = some (.slice Ao25 t241.length co25) ∧ w'.cell? ⟨gb244, 1, none⟩ = some (.slice A2 l2.length c2)) ∧ (Kd.R (Kd.int .i64) 3 w' w.heap.size (fun k_ => some k_ ≠ (s_.2.2.1 : Value).ownBlock ∧ some k_ ≠ (s_.2.2.2.1 : Value).ownBlock) (.slice Ao25 t241.length co25) t241) ∧ (Kd.R (Kd.int .i64) 33 w' w.heap.size (fun k_ => some k_ ≠ (s_.2.2.2.2 : Value).ownBlock) s_.2.1 y248) ∧ (Kd.R (Kd.int .i64) 3 w' w.heap.size (fun k_ => some k_ ≠ (.slice Ao25 t241.length co25 : Value).ownBlock ∧ some k_ ≠ (s_.2.2.2.1 : Value).ownBlock) s_.2.2.1 t251) ∧ (Kd.R (Kd.int .i64) 3 w' w.heap.size (fun k_ => some k_ ≠ (.slice Ao25 t241.length co25 : Value).ownBlock ∧ some k_ ≠ (s_.2.2.1 : Value).ownBlock) s_.2.2.2.1 t254) ∧ (Kd.R (Kd.int .i64) 33 w' w.heap.size (fun k_ => some k_ ≠ (s_.2.1 : Value).ownBlock) s_.2.2.2.2 t257) ∧ (w'.heap[gb244]? = some (.cells #[.slice Ao25 t241.length co25, .slice A2 l2.length c2] 25 (0, 0))) ∧ (Below w.heap.size w w')) ?_ ?_
    rotate_left
    ·intro hJ1_3_4_6
     refine join_ (σ := Value × Value × Value × Nat) 6 #[true, true, true, true, true, true, false, false, false, false, true, false, false] (fun s_ => [(33, s_.1), (35, s_.2.1), (36, .agg #[s_.2.2.1, s_.2.1]), (8, .pointer (some ⟨s_.2.2.2, 0, none⟩))]) (fun s_ w' => (w'.cell? ⟨gb244, 0, none⟩ = some (.slice Ao25 t241.length co25) ∧ w'.cell? ⟨gb244, 1, none⟩ = some (.slice A2 l2.length c2)) ∧ (Kd.R (Kd.int .i64) 3 w' w.heap.size (fun k_ => some k_ ≠ (s_.2.2.1 : Value).ownBlock) (.slice Ao25 t241.length co25) t241) ∧ (Kd.R (Kd.int .i64) 33 w' w.heap.size (fun _ => True) s_.2.1 y248) ∧ (Kd.R (Kd.int .i64) 3 w' w.heap.size (fun k_ => some k_ ≠ (.slice Ao25 t241.length co25 : Value).ownBlock) s_.2.2.1 t251) ∧ (w'.heap[gb244]? = some (.cells #[.slice Ao25 t241.length co25, .slice A2 l2.length c2] 25 (0, 0))) ∧ (w'.heap[s_.2.2.2]? = some (.cells #[.slice none 0 0, .slice none 0 0] 25 (0, 0))) ∧ (w.heap.size ≤ s_.2.2.2) ∧ (w.heap.size ≤ s_.2.2.2) ∧ (gb244 ≠ s_.2.2.2) ∧ (s_.2.2.2 ≠ gb244) ∧ (Below w.heap.size w w')) ?_ ?_
     rotate_left
     ·intro hJ1_3_4_10
      refine join_ (σ := Value × Value × Value) 7 #[true, true, true, true, true, true, false, false, false, false, false, false, false] (fun s_ => [(33, s_.1), (35, s_.2.1), (36, .agg #[s_.2.2, s_.2.1])]) (fun s_ w' => (w'.cell? ⟨gb244, 0, none⟩ = some (.slice Ao25 t241.length co25) ∧ w'.cell? ⟨gb244, 1, none⟩ = some (.slice A2 l2.length c2)) ∧ (Kd.R (Kd.int .i64) 3 w' w.heap.size (fun k_ => some k_ ≠ (s_.2.2 : Value).ownBlock) (.slice Ao25 t241.length co25) t241) ∧ (Kd.R (Kd.int .i64) 33 w' w.heap.size (fun _ => True) s_.2.1 y248) ∧ (Kd.R (Kd.int .i64) 3 w' w.heap.size (fun k_ => some k_ ≠ (.slice Ao25 t241.length co25 : Value).ownBlock) s_.2.2 t251) ∧ (w'.heap[gb244]? = some (.cells #[.slice Ao25 t241.length co25, .slice A2 l2.length c2] 25 (0, 0))) ∧ (Below w.heap.size w w')) ?_ ?_
      rotate_left
      ·intro hJ1_3_4
       refine join_ (σ := Value × Value × Nat) 7 #[true, true, true, true, false, true, false, false, false, false, true, false, false] (fun s_ => [(33, s_.1), (35, s_.2.1), (8, .pointer (some ⟨s_.2.2, 0, none⟩))]) (fun s_ w' => (w'.cell? ⟨gb244, 0, none⟩ = some (.slice Ao25 t241.length co25) ∧ w'.cell? ⟨gb244, 1, none⟩ = some (.slice A2 l2.length c2)) ∧ (Kd.R (Kd.int .i64) 3 w' w.heap.size (fun _ => True) (.slice Ao25 t241.length co25) t241) ∧ (Kd.R (Kd.int .i64) 33 w' w.heap.size (fun _ => True) s_.2.1 y248) ∧ (w'.heap[gb244]? = some (.cells #[.slice Ao25 t241.length co25, .slice A2 l2.length c2] 25 (0, 0))) ∧ (w'.heap[s_.2.2]? = some (.cells #[.slice none 0 0, .slice none 0 0] 25 (0, 0))) ∧ (w.heap.size ≤ s_.2.2) ∧ (w.heap.size ≤ s_.2.2) ∧ (gb244 ≠ s_.2.2) ∧ (s_.2.2 ≠ gb244) ∧ (Below w.heap.size w w')) ?_ ?_
       rotate_left
       ·intro hJ1_3_10
        refine join_ (σ := Value × Value) 8 #[true, true, true, true, false, true, false, false, false, false, false, false, false] (fun s_ => [(33, s_.1), (35, s_.2)]) (fun s_ w' => (w'.cell? ⟨gb244, 0, none⟩ = some (.slice Ao25 t241.length co25) ∧ w'.cell? ⟨gb244, 1, none⟩ = some (.slice A2 l2.length c2)) ∧ (Kd.R (Kd.int .i64) 3 w' w.heap.size (fun _ => True) (.slice Ao25 t241.length co25) t241) ∧ (Kd.R (Kd.int .i64) 33 w' w.heap.size (fun _ => True) s_.2 y248) ∧ (w'.heap[gb244]? = some (.cells #[.slice Ao25 t241.length co25, .slice A2 l2.length c2] 25 (0, 0))) ∧ (Below w.heap.size w w')) ?_ ?_
        rotate_left
        ·intro hJ1_3
         refine join_ (σ := Value × Nat) 8 #[true, true, true, false, false, true, false, false, false, false, true, false, false] (fun s_ => [(33, s_.1), (8, .pointer (some ⟨s_.2, 0, none⟩))]) (fun s_ w' => (w'.cell? ⟨gb244, 0, none⟩ = some (.slice Ao25 t241.length co25) ∧ w'.cell? ⟨gb244, 1, none⟩ = some (.slice A2 l2.length c2)) ∧ (Kd.R (Kd.int .i64) 3 w' w.heap.size (fun _ => True) (.slice Ao25 t241.length co25) t241) ∧ (Kd.R (Kd.int .i64) 33 w' w.heap.size (fun _ => True) s_.1 y245) ∧ (w'.heap[gb244]? = some (.cells #[.slice Ao25 t241.length co25, .slice A2 l2.length c2] 25 (0, 0))) ∧ (w'.heap[s_.2]? = some (.cells #[.slice none 0 0, .slice none 0 0] 25 (0, 0))) ∧ (w.heap.size ≤ s_.2) ∧ (w.heap.size ≤ s_.2) ∧ (gb244 ≠ s_.2) ∧ (s_.2 ≠ gb244) ∧ (Below w.heap.size w w')) ?_ ?_
         rotate_left
         ·intro hJ1_10
          refine join_ (σ := Value) 9 #[true, true, true, false, false, true, false, false, false, false, false, false, false] (fun s_ => [(33, s_)]) (fun s_ w' => (w'.cell? ⟨gb244, 0, none⟩ = some (.slice Ao25 t241.length co25) ∧ w'.cell? ⟨gb244, 1, none⟩ = some (.slice A2 l2.length c2)) ∧ (Kd.R (Kd.int .i64) 3 w' w.heap.size (fun _ => True) (.slice Ao25 t241.length co25) t241) ∧ (Kd.R (Kd.int .i64) 33 w' w.heap.size (fun _ => True) s_ y245) ∧ (w'.heap[gb244]? = some (.cells #[.slice Ao25 t241.length co25, .slice A2 l2.length c2] 25 (0, 0))) ∧ (Below w.heap.size w w')) ?_ ?_
          rotate_left
          ·intro hJ1
           refine join_ (σ := Nat) 9 #[true, false, true, false, false, true, false, false, false, false, true, false, false] (fun s_ => [(8, .pointer (some ⟨s_, 0, none⟩))]) (fun s_ w' => (w'.cell? ⟨gb244, 0, none⟩ = some (.slice Ao25 t241.length co25) ∧ w'.cell? ⟨gb244, 1, none⟩ = some (.slice A2 l2.length c2)) ∧ (Kd.R (Kd.int .i64) 3 w' w.heap.size (fun _ => True) (.slice Ao25 t241.length co25) t241) ∧ (w'.heap[gb244]? = some (.cells #[.slice Ao25 t241.length co25, .slice A2 l2.length c2] 25 (0, 0))) ∧ (w'.heap[s_]? = some (.cells #[.slice none 0 0, .slice none 0 0] 25 (0, 0))) ∧ (w.heap.size ≤ s_) ∧ (w.heap.size ≤ s_) ∧ (gb244 ≠ s_) ∧ (s_ ≠ gb244) ∧ (Below w.heap.size w w')) ?_ ?_
           rotate_left
           ·intro hJ10
            refine two_ (i := 1) (j := 10) (Ni := some 33) (Nj := some 8) #[true, true, true, false, false, true, false, false, false, false, false, false, false] #[true, false, true, false, false, true, false, false, false, false, true, false, false] rfl rfl rfl rfl (two_of HT_.out (by kernel_rfl)) (by decide) (by decide) (fun K hK => ?_) (fun K hK => ?_)
            ·skip
             refine Kd.R_lit_step (Kd.int .i64) _ 33 ?hg (N := 33) ?hd (xs := ([a0] : List Int)) (inner := [.int .i64 a0]) (ok := fun _ => True) (okp := fun _ => True) ?hr ?hp (fun _ hk => hk) trivial (Below.refl _ _) (Nat.le_refl _) (by simp) ?_; (case hd => rfl); (case hg => rfl); (case hr => first | (go_simp; done) | (go_simp; rfl)); (case hp => exact (Reps.one (show Kd.M (Kd.int .i64) _ _ _ a0 [.int .i64 a0] from rfl) (Reps.none _ _)))
             intro v246 w29 ho30 hb hg_ hnew_
             clear hg_ hnew_
             (first | rw [← Ny245.out] at ho30 | (simp only [Int.reduceToNat] at ho30; rw [← Ny245.out] at ho30))
             replace HO243 := zy_ HO243 hb
             have HO247 := Aside0.mk (Kd.R_lower ho30 (below_size (zw1_ HB GE244)))
             replace BK244 := za_ BK244 hb
             replace HB := Aside0.mk (below_step (zw1_ HB GE244) hb)
             clear hb ho30
             refine hK.out _ _ ⟨zx_ BK244 0, zx_ BK244 1⟩ (fun hHeld => ?_)
             clear hK K
             refine zq_ (some 33) (h := ?_)
             exact zj_ (hJ1 (v246) _ ⟨hHeld, (zr_ HO243.out), (zr_ HO247.out), (zb_ BK244), (zw1_ HB GE244)⟩)
            skip
            refine box_step ?hg (N := 8) ?hd (cs := #[.slice none 0 0, .slice none 0 0]) (t := 25) ?hr ?_; (case hd => rfl); (case hg => rfl); (case hr => first | (go_simp; done) | (go_simp; rfl))
            intro gb261 hg w29 hbox hb
            replace HO243 := zy_ HO243 hb
            have BK261 := Aside0.mk (hbox)
            have GW261 := Aside0.mk (zs_ hg (zw1_ HB GE244))
            have GE261 := Aside0.mk (zs_ hg (zw1_ HB GE244))
            replace HB := Aside0.mk (below_step (zw1_ HB GE244) hb)
            have NB244_261 := Aside0.mk (zn_ hg BK244)
            have NB261_244 := Aside0.mk (zm_ hg BK244)
            replace BK244 := za_ BK244 hb
            clear hb hbox hg
            refine hK.out _ _ ⟨zx_ BK244 0, zx_ BK244 1⟩ (fun hHeld => ?_)
            clear hK K
            refine zq_ (some 8) (h := ?_)
            exact zj_ (hJ10 (gb261) _ ⟨hHeld, (zr_ HO243.out), (zb_ BK244), (zb_ BK261), GW261.out, GE261.out, NB244_261.out, NB261_244.out, (zw2_ HB GE244 GE261)⟩)
           skip
           rintro gb261 w30 ⟨hS_, h0_, h1_, h2_, h3_, h4_, h5_, h6_, h7_⟩
           (try dsimp only at h0_ h1_ h2_ h3_ h4_ h5_ h6_ h7_)
           clear HO243 BK244 HB
           have HO243 := Aside0.mk h0_
           have BK244 := Aside0.mk h1_
           have BK261 := Aside0.mk h2_
           have GW261 := Aside0.mk h3_
           have GE261 := Aside0.mk h4_
           have NB244_261 := Aside0.mk h5_
           have NB261_244 := Aside0.mk h6_
           have HB := Aside0.mk h7_
           clear h0_ h1_ h2_ h3_ h4_ h5_ h6_ h7_
           have hHeld : w30.cell? ⟨gb244, 0, none⟩ = some (.slice Ao25 t241.length co25) ∧ w30.cell? ⟨gb244, 1, none⟩ = some (.slice A2 l2.length c2) := hS_
           refine zi_ (h := ?_)
           refine yo_ 1 (some 33) (fun K hK => ?_)
           refine Kd.R_lit_step (Kd.int .i64) _ 33 ?hg (N := 33) ?hd (xs := ([a0] : List Int)) (inner := [.int .i64 a0]) (ok := fun _ => True) (okp := fun _ => True) ?hr ?hp (fun _ hk => hk) trivial (Below.refl _ _) (Nat.le_refl _) (by simp) ?_; (case hd => rfl); (case hg => rfl); (case hr => first | (go_simp; done) | (go_simp; rfl)); (case hp => exact (Reps.one (show Kd.M (Kd.int .i64) _ _ _ a0 [.int .i64 a0] from rfl) (Reps.none _ _)))
           intro v246 w31 ho32 hb hg_ hnew_
           clear hg_ hnew_
           (first | rw [← Ny245.out] at ho32 | (simp only [Int.reduceToNat] at ho32; rw [← Ny245.out] at ho32))
           replace HO243 := zy_ HO243 hb
           have HO247 := Aside0.mk (Kd.R_lower ho32 (below_size (zw2_ HB GE244 GE261)))
           replace BK244 := za_ BK244 hb
           replace BK261 := za_ BK261 hb
           replace HB := Aside0.mk (below_step (zw2_ HB GE244 GE261) hb)
           clear hb ho32
           refine hK.out _ _ ⟨zx_ BK244 0, zx_ BK244 1⟩ (fun hHeld => ?_)
           clear hK K
           refine zq_ (some 33) (h := ?_)
           exact zj_ (hJ1_10 (v246, gb261) _ ⟨hHeld, (zr_ HO243.out), (zr_ HO247.out), (zb_ BK244), (zb_ BK261), GW261.out, GE261.out, NB244_261.out, NB261_244.out, (zw2_ HB GE244 GE261)⟩)
          skip
          rintro v246 w31 ⟨hS_, h0_, h1_, h2_, h3_⟩
          (try dsimp only at h0_ h1_ h2_ h3_)
          clear HO243 BK244 HB
          have HO243 := Aside0.mk h0_
          have HO247 := Aside0.mk h1_
          have BK244 := Aside0.mk h2_
          have HB := Aside0.mk h3_
          clear h0_ h1_ h2_ h3_
          have hHeld : w31.cell? ⟨gb244, 0, none⟩ = some (.slice Ao25 t241.length co25) ∧ w31.cell? ⟨gb244, 1, none⟩ = some (.slice A2 l2.length c2) := hS_
          refine zi_ (h := ?_)
          refine two_ (i := 3) (j := 10) (Ni := some 35) (Nj := some 8) #[true, true, true, true, false, true, false, false, false, false, false, false, false] #[true, true, true, false, false, true, false, false, false, false, true, false, false] rfl rfl rfl rfl (two_of HT_.out (by kernel_rfl)) (by decide) (by decide) (fun K hK => ?_) (fun K hK => ?_)
          ·skip
           refine Kd.R_append_rows_step (Kd.int .i64) (w0 := w) w.heap.size (by rfl) (.tmp 33) (.tmp 34) 23 33 (.int .i64 0) 8 rfl Try.underlying23 info33 rfl (by decide) (by omega) v246 y245 l1 _ _ _ (fun _ => True) (fun _ => False) rfl rfl ?aO ?aR (fun _ _ h => h) (fun _ h => h.elim) ?aF ?aB ?aS ?aL ?_
           (case aR => exact zk_ (Kd.C_below HR1.out HB.out))
           (case aB => exact (zw1_ HB GE244))
           (case aF => exact (fun _ _ => trivial))
           (case aO => exact (zr_ HO247.out))
           (case aS => exact (below_size (zw1_ HB GE244)))
           (case aL => have := LMc12.out; omega)
           intro v249 w32 ho hb hg hat
           rw [← Ny248.out] at ho
           replace HO243 := Aside0.mk (Kd.R_over' (zr_ HO243.out) (Kd.R_typed (zr_ HO247.out)) (by decide) hg)
           replace BK244 := Aside0.mk (zh_ BK244 hg (Kd.R_ne HO247.out BK244.out (by decide)))
           replace HB := Aside0.mk (hb)
           have HO250 := Aside0.mk (ho)
           clear HO247
           clear ho hb hg hat
           refine hK.out _ _ ⟨zx_ BK244 0, zx_ BK244 1⟩ (fun hHeld => ?_)
           clear hK K
           refine zq_ (some 35) (h := ?_)
           exact zj_ (hJ1_3 (v246, v249) _ ⟨hHeld, (zr_ HO243.out), (zr_ HO250.out), (zb_ BK244), (zw1_ HB GE244)⟩)
          skip
          refine box_step ?hg (N := 8) ?hd (cs := #[.slice none 0 0, .slice none 0 0]) (t := 25) ?hr ?_; (case hd => rfl); (case hg => rfl); (case hr => first | (go_simp; done) | (go_simp; rfl))
          intro gb261 hg w32 hbox hb
          replace HO243 := zy_ HO243 hb
          replace HO247 := zy_ HO247 hb
          have BK261 := Aside0.mk (hbox)
          have GW261 := Aside0.mk (zs_ hg (zw1_ HB GE244))
          have GE261 := Aside0.mk (zs_ hg (zw1_ HB GE244))
          replace HB := Aside0.mk (below_step (zw1_ HB GE244) hb)
          have NB244_261 := Aside0.mk (zn_ hg BK244)
          have NB261_244 := Aside0.mk (zm_ hg BK244)
          replace BK244 := za_ BK244 hb
          clear hb hbox hg
          refine hK.out _ _ ⟨zx_ BK244 0, zx_ BK244 1⟩ (fun hHeld => ?_)
          clear hK K
          refine zq_ (some 8) (h := ?_)
          exact zj_ (hJ1_10 (v246, gb261) _ ⟨hHeld, (zr_ HO243.out), (zr_ HO247.out), (zb_ BK244), (zb_ BK261), GW261.out, GE261.out, NB244_261.out, NB261_244.out, (zw2_ HB GE244 GE261)⟩)
         skip
         rintro ⟨v246, gb261⟩ w32 ⟨hS_, h0_, h1_, h2_, h3_, h4_, h5_, h6_, h7_, h8_⟩
         (try dsimp only at h0_ h1_ h2_ h3_ h4_ h5_ h6_ h7_ h8_)
         clear HO243 BK244 HB
         have HO243 := Aside0.mk h0_
         have HO247 := Aside0.mk h1_
         have BK244 := Aside0.mk h2_
         have BK261 := Aside0.mk h3_
         have GW261 := Aside0.mk h4_
         have GE261 := Aside0.mk h5_
         have NB244_261 := Aside0.mk h6_
         have NB261_244 := Aside0.mk h7_
         have HB := Aside0.mk h8_
         clear h0_ h1_ h2_ h3_ h4_ h5_ h6_ h7_ h8_
         have hHeld : w32.cell? ⟨gb244, 0, none⟩ = some (.slice Ao25 t241.length co25) ∧ w32.cell? ⟨gb244, 1, none⟩ = some (.slice A2 l2.length c2) := hS_
         refine zi_ (h := ?_)
         refine yo_ 3 (some 35) (fun K hK => ?_)
         refine Kd.R_append_rows_step (Kd.int .i64) (w0 := w) w.heap.size (by rfl) (.tmp 33) (.tmp 34) 23 33 (.int .i64 0) 8 rfl Try.underlying23 info33 rfl (by decide) (by omega) v246 y245 l1 _ _ _ (fun _ => True) (fun _ => False) rfl rfl ?aO ?aR (fun _ _ h => h) (fun _ h => h.elim) ?aF ?aB ?aS ?aL ?_
         (case aR => exact zk_ (Kd.C_below HR1.out HB.out))
         (case aB => exact (zw2_ HB GE244 GE261))
         (case aF => exact (fun _ _ => trivial))
         (case aO => exact (zr_ HO247.out))
         (case aS => exact (below_size (zw2_ HB GE244 GE261)))
         (case aL => have := LMc12.out; omega)
         intro v249 w33 ho hb hg hat
         rw [← Ny248.out] at ho
         replace HO243 := Aside0.mk (Kd.R_over' (zr_ HO243.out) (Kd.R_typed (zr_ HO247.out)) (by decide) hg)
         replace BK244 := Aside0.mk (zh_ BK244 hg (Kd.R_ne HO247.out BK244.out (by decide)))
         replace BK261 := Aside0.mk (zh_ BK261 hg (Kd.R_ne HO247.out BK261.out (by decide)))
         replace HB := Aside0.mk (hb)
         have HO250 := Aside0.mk (ho)
         clear HO247
         clear ho hb hg hat
         refine hK.out _ _ ⟨zx_ BK244 0, zx_ BK244 1⟩ (fun hHeld => ?_)
         clear hK K
         refine zq_ (some 35) (h := ?_)
         exact zj_ (hJ1_3_10 (v246, v249, gb261) _ ⟨hHeld, (zr_ HO243.out), (zr_ HO250.out), (zb_ BK244), (zb_ BK261), GW261.out, GE261.out, NB244_261.out, NB261_244.out, (zw2_ HB GE244 GE261)⟩)
        skip
        rintro ⟨v246, v249⟩ w32 ⟨hS_, h0_, h1_, h2_, h3_⟩
        (try dsimp only at h0_ h1_ h2_ h3_)
        clear HO243 BK244 HB
        have HO243 := Aside0.mk h0_
        have HO250 := Aside0.mk h1_
        have BK244 := Aside0.mk h2_
        have HB := Aside0.mk h3_
        clear h0_ h1_ h2_ h3_
        have hHeld : w32.cell? ⟨gb244, 0, none⟩ = some (.slice Ao25 t241.length co25) ∧ w32.cell? ⟨gb244, 1, none⟩ = some (.slice A2 l2.length c2) := hS_
        obtain ⟨Ao33, co33, eo33⟩ := Kd.R_slice HO250.out
        (first | subst eo33 | (injection eo33 with f1_ f2_ f3_; have f4_ := f1_.symm; have f5_ := f3_.symm; clear f1_ f2_ f3_; subst f4_; subst f5_))
        refine zi_ (h := ?_)
        refine two_ (i := 4) (j := 10) (Ni := some 36) (Nj := some 8) #[true, true, true, true, true, true, false, false, false, false, false, false, false] #[true, true, true, true, false, true, false, false, false, false, true, false, false] rfl rfl rfl rfl (two_of HT_.out (by kernel_rfl)) (by decide) (by decide) (fun K hK => ?_) (fun K hK => ?_)
        ·skip
         refine yg_ Try.func17 #[.int .i64 1, .slice Ao33 y248.length co33] ?_
         with_reducible refine (carousellaw8_rows.calls 1 _ _ y248 t251 _ ?side1 ?side2 A13.out).mono ?_
         (case side1 => exact zk_ ((Kd.R_reads' HO250.out).2.2))
         (case side2 => exact (Kd.R_reads' HO250.out).2.1)
         rintro e w34 ⟨v252, rfl, ho0, hb⟩
         refine ⟨_, rfl, ?_⟩
         replace HO250 := zy_ HO250 hb
         have HO253 := Aside0.mk (Kd.R_lower (Kd.R_new' ho0 (Kd.R_lt (zr_ HO243.out))) (below_size (zw1_ HB GE244)))
         replace HO243 := ze_ HO243 ho0 hb
         replace BK244 := za_ BK244 hb
         replace HB := Aside0.mk (below_step (zw1_ HB GE244) hb)
         (try clear hb)
         (try clear hb2)
         (try clear hk)
         (try clear hi)
         (try clear ho0)
         refine hK.out _ _ ⟨zx_ BK244 0, zx_ BK244 1⟩ (fun hHeld => ?_)
         clear hK K
         refine zq_ (some 36) (h := ?_)
         exact zj_ (hJ1_3_4 (v246, .slice Ao33 y248.length co33, v252) _ ⟨hHeld, (zr_ (Kd.R_mono HO243.out (fun _ hk => hk.2))), (zr_ HO250.out), (zr_ (Kd.R_mono HO253.out (fun _ hk => hk.2))), (zb_ BK244), (zw1_ HB GE244)⟩)
        skip
        refine box_step ?hg (N := 8) ?hd (cs := #[.slice none 0 0, .slice none 0 0]) (t := 25) ?hr ?_; (case hd => rfl); (case hg => rfl); (case hr => first | (go_simp; done) | (go_simp; rfl))
        intro gb261 hg w33 hbox hb
        replace HO243 := zy_ HO243 hb
        replace HO250 := zy_ HO250 hb
        have BK261 := Aside0.mk (hbox)
        have GW261 := Aside0.mk (zs_ hg (zw1_ HB GE244))
        have GE261 := Aside0.mk (zs_ hg (zw1_ HB GE244))
        replace HB := Aside0.mk (below_step (zw1_ HB GE244) hb)
        have NB244_261 := Aside0.mk (zn_ hg BK244)
        have NB261_244 := Aside0.mk (zm_ hg BK244)
        replace BK244 := za_ BK244 hb
        clear hb hbox hg
        refine hK.out _ _ ⟨zx_ BK244 0, zx_ BK244 1⟩ (fun hHeld => ?_)
        clear hK K
        refine zq_ (some 8) (h := ?_)
        exact zj_ (hJ1_3_10 (v246, .slice Ao33 y248.length co33, gb261) _ ⟨hHeld, (zr_ HO243.out), (zr_ HO250.out), (zb_ BK244), (zb_ BK261), GW261.out, GE261.out, NB244_261.out, NB261_244.out, (zw2_ HB GE244 GE261)⟩)
       skip
       rintro ⟨v246, v249, gb261⟩ w33 ⟨hS_, h0_, h1_, h2_, h3_, h4_, h5_, h6_, h7_, h8_⟩
       (try dsimp only at h0_ h1_ h2_ h3_ h4_ h5_ h6_ h7_ h8_)
       clear HO243 BK244 HB
       have HO243 := Aside0.mk h0_
       have HO250 := Aside0.mk h1_
       have BK244 := Aside0.mk h2_
       have BK261 := Aside0.mk h3_
       have GW261 := Aside0.mk h4_
       have GE261 := Aside0.mk h5_
       have NB244_261 := Aside0.mk h6_
       have NB261_244 := Aside0.mk h7_
       have HB := Aside0.mk h8_
       clear h0_ h1_ h2_ h3_ h4_ h5_ h6_ h7_ h8_
       have hHeld : w33.cell? ⟨gb244, 0, none⟩ = some (.slice Ao25 t241.length co25) ∧ w33.cell? ⟨gb244, 1, none⟩ = some (.slice A2 l2.length c2) := hS_
       obtain ⟨Ao34, co34, eo34⟩ := Kd.R_slice HO250.out
       (first | subst eo34 | (injection eo34 with f1_ f2_ f3_; have f4_ := f1_.symm; have f5_ := f3_.symm; clear f1_ f2_ f3_; subst f4_; subst f5_))
       refine zi_ (h := ?_)
       refine yo_ 4 (some 36) (fun K hK => ?_)
       refine yg_ Try.func17 #[.int .i64 1, .slice Ao34 y248.length co34] ?_
       with_reducible refine (carousellaw8_rows.calls 1 _ _ y248 t251 _ ?side1 ?side2 A13.out).mono ?_
       (case side1 => exact zk_ ((Kd.R_reads' HO250.out).2.2))
       (case side2 => exact (Kd.R_reads' HO250.out).2.1)
       rintro e w35 ⟨v252, rfl, ho0, hb⟩
       refine ⟨_, rfl, ?_⟩
       replace HO250 := zy_ HO250 hb
       have HO253 := Aside0.mk (Kd.R_lower (Kd.R_new' ho0 (Kd.R_lt (zr_ HO243.out))) (below_size (zw2_ HB GE244 GE261)))
       replace HO243 := ze_ HO243 ho0 hb
       replace BK244 := za_ BK244 hb
       replace BK261 := za_ BK261 hb
       replace HB := Aside0.mk (below_step (zw2_ HB GE244 GE261) hb)
       (try clear hb)
       (try clear hb2)
       (try clear hk)
       (try clear hi)
       (try clear ho0)
       refine hK.out _ _ ⟨zx_ BK244 0, zx_ BK244 1⟩ (fun hHeld => ?_)
       clear hK K
       refine zq_ (some 36) (h := ?_)
       exact zj_ (hJ1_3_4_10 (v246, .slice Ao34 y248.length co34, v252, gb261) _ ⟨hHeld, (zr_ (Kd.R_mono HO243.out (fun _ hk => hk.2))), (zr_ HO250.out), (zr_ (Kd.R_mono HO253.out (fun _ hk => hk.2))), (zb_ BK244), (zb_ BK261), GW261.out, GE261.out, NB244_261.out, NB261_244.out, (zw2_ HB GE244 GE261)⟩)
      skip
      rintro ⟨v246, v249, v252⟩ w34 ⟨hS_, h0_, h1_, h2_, h3_, h4_⟩
      (try dsimp only at h0_ h1_ h2_ h3_ h4_)
      clear HO243 BK244 HB
      have HO243 := Aside0.mk h0_
      have HO250 := Aside0.mk h1_
      have HO253 := Aside0.mk h2_
      have BK244 := Aside0.mk h3_
      have HB := Aside0.mk h4_
      clear h0_ h1_ h2_ h3_ h4_
      have hHeld : w34.cell? ⟨gb244, 0, none⟩ = some (.slice Ao25 t241.length co25) ∧ w34.cell? ⟨gb244, 1, none⟩ = some (.slice A2 l2.length c2) := hS_
      obtain ⟨Ao35, co35, eo35⟩ := Kd.R_slice HO253.out
      (first | subst eo35 | (injection eo35 with f1_ f2_ f3_; have f4_ := f1_.symm; have f5_ := f3_.symm; clear f1_ f2_ f3_; subst f4_; subst f5_))
      obtain ⟨Ao36, co36, eo36⟩ := Kd.R_slice HO250.out
      (first | subst eo36 | (injection eo36 with f1_ f2_ f3_; have f4_ := f1_.symm; have f5_ := f3_.symm; clear f1_ f2_ f3_; subst f4_; subst f5_))
      refine zi_ (h := ?_)
      refine two_ (i := 6) (j := 10) (Ni := some 38) (Nj := some 8) #[true, true, true, true, true, true, true, false, false, false, false, false, false] #[true, true, true, true, true, true, false, false, false, false, true, false, false] rfl rfl rfl rfl (two_of HT_.out (by kernel_rfl)) (by decide) (by decide) (fun K hK => ?_) (fun K hK => ?_)
      ·skip
       refine yg_ Try.func13 #[.agg #[.slice Ao35 t251.length co35, .slice Ao36 y248.length co36], .agg #[.slice Ao25 t241.length co25, .slice A2 l2.length c2], .int .i64 1] ?_
       with_reducible refine (conv_Row.calls kj5 _ _ t251 _ _ y248 _ _ t241 _ _ l2 1 t254 t257 t260 _ ?side1 ?side2 ?side3 ?side4 ?side5 ?side6 ?side7 ?side8 A14.out).mono ?_
       (case side1 => exact zk_ ((Kd.R_reads' HO253.out).2.2))
       (case side2 => exact (Kd.R_reads' HO253.out).2.1)
       (case side3 => exact zk_ ((Kd.R_reads' HO250.out).2.2))
       (case side4 => exact (Kd.R_reads' HO250.out).2.1)
       (case side5 => exact zk_ ((Kd.R_reads' HO243.out).2.2))
       (case side6 => exact (Kd.R_reads' HO243.out).2.1)
       (case side7 => exact zk_ (Kd.C_below HR2.out HB.out))
       (case side8 => exact HC2.out)
       rintro e w37 ⟨v255, v258, rfl, ho0, ho1, hb⟩
       refine ⟨_, rfl, ?_⟩
       have HO256 := Aside0.mk (Kd.R_lower (Kd.R_new' (Kd.R_new' ho0 (Kd.R_lt (zr_ HO243.out))) (Kd.R_lt (zr_ HO253.out))) (below_size (zw1_ HB GE244)))
       replace HO243 := ze_ HO243 ho0 hb
       replace HO253 := ze_ HO253 ho0 hb
       have HO259 := Aside0.mk (Kd.R_lower (Kd.R_new' ho1 (Kd.R_lt (zr_ HO250.out))) (below_size (zw1_ HB GE244)))
       replace HO250 := ze_ HO250 ho1 hb
       replace BK244 := za_ BK244 hb
       replace HB := Aside0.mk (below_step (zw1_ HB GE244) hb)
       (try clear hb)
       (try clear hb2)
       (try clear hk)
       (try clear hi)
       (try clear ho0)
       (try clear ho1)
       refine hK.out _ _ ⟨zx_ BK244 0, zx_ BK244 1⟩ (fun hHeld => ?_)
       clear hK K
       refine zq_ (some 38) (h := ?_)
       refine yp_ ?_ 7 31
       refine yp_ ?_ 8 39
       refine yp_ ?_ 9 40
       exact zj_ (hJ1_3_4_6 (v246, .slice Ao36 y248.length co36, .slice Ao35 t251.length co35, v255, v258) _ ⟨hHeld, (zr_ HO243.out), (zr_ (Kd.R_mono HO250.out (fun _ hk => hk.2))), (zr_ HO253.out), (zr_ (Kd.R_mono HO256.out (fun _ hk => ⟨hk.1.2, hk.2⟩))), (zr_ (Kd.R_mono HO259.out (fun _ hk => hk.2))), (zb_ BK244), (zw1_ HB GE244)⟩)
      skip
      refine box_step ?hg (N := 8) ?hd (cs := #[.slice none 0 0, .slice none 0 0]) (t := 25) ?hr ?_; (case hd => rfl); (case hg => rfl); (case hr => first | (go_simp; done) | (go_simp; rfl))
      intro gb261 hg w35 hbox hb
      replace HO243 := zy_ HO243 hb
      replace HO250 := zy_ HO250 hb
      replace HO253 := zy_ HO253 hb
      have BK261 := Aside0.mk (hbox)
      have GW261 := Aside0.mk (zs_ hg (zw1_ HB GE244))
      have GE261 := Aside0.mk (zs_ hg (zw1_ HB GE244))
      replace HB := Aside0.mk (below_step (zw1_ HB GE244) hb)
      have NB244_261 := Aside0.mk (zn_ hg BK244)
      have NB261_244 := Aside0.mk (zm_ hg BK244)
      replace BK244 := za_ BK244 hb
      clear hb hbox hg
      refine hK.out _ _ ⟨zx_ BK244 0, zx_ BK244 1⟩ (fun hHeld => ?_)
      clear hK K
      refine zq_ (some 8) (h := ?_)
      exact zj_ (hJ1_3_4_10 (v246, .slice Ao36 y248.length co36, .slice Ao35 t251.length co35, gb261) _ ⟨hHeld, (zr_ HO243.out), (zr_ HO250.out), (zr_ HO253.out), (zb_ BK244), (zb_ BK261), GW261.out, GE261.out, NB244_261.out, NB261_244.out, (zw2_ HB GE244 GE261)⟩)
     skip
     rintro ⟨v246, v249, v252, gb261⟩ w35 ⟨hS_, h0_, h1_, h2_, h3_, h4_, h5_, h6_, h7_, h8_, h9_⟩
     (try dsimp only at h0_ h1_ h2_ h3_ h4_ h5_ h6_ h7_ h8_ h9_)
     clear HO243 BK244 HB
     have HO243 := Aside0.mk h0_
     have HO250 := Aside0.mk h1_
     have HO253 := Aside0.mk h2_
     have BK244 := Aside0.mk h3_
     have BK261 := Aside0.mk h4_
     have GW261 := Aside0.mk h5_
     have GE261 := Aside0.mk h6_
     have NB244_261 := Aside0.mk h7_
     have NB261_244 := Aside0.mk h8_
     have HB := Aside0.mk h9_
     clear h0_ h1_ h2_ h3_ h4_ h5_ h6_ h7_ h8_ h9_
     have hHeld : w35.cell? ⟨gb244, 0, none⟩ = some (.slice Ao25 t241.length co25) ∧ w35.cell? ⟨gb244, 1, none⟩ = some (.slice A2 l2.length c2) := hS_
     obtain ⟨Ao36, co36, eo36⟩ := Kd.R_slice HO253.out
     (first | subst eo36 | (injection eo36 with f1_ f2_ f3_; have f4_ := f1_.symm; have f5_ := f3_.symm; clear f1_ f2_ f3_; subst f4_; subst f5_))
     obtain ⟨Ao37, co37, eo37⟩ := Kd.R_slice HO250.out
     (first | subst eo37 | (injection eo37 with f1_ f2_ f3_; have f4_ := f1_.symm; have f5_ := f3_.symm; clear f1_ f2_ f3_; subst f4_; subst f5_))
     refine zi_ (h := ?_)
     refine yo_ 6 (some 38) (fun K hK => ?_)
     refine yg_ Try.func13 #[.agg #[.slice Ao36 t251.length co36, .slice Ao37 y248.length co37], .agg #[.slice Ao25 t241.length co25, .slice A2 l2.length c2], .int .i64 1] ?_
     with_reducible refine (conv_Row.calls kj5 _ _ t251 _ _ y248 _ _ t241 _ _ l2 1 t254 t257 t260 _ ?side1 ?side2 ?side3 ?side4 ?side5 ?side6 ?side7 ?side8 A14.out).mono ?_
     (case side1 => exact zk_ ((Kd.R_reads' HO253.out).2.2))
     (case side2 => exact (Kd.R_reads' HO253.out).2.1)
     (case side3 => exact zk_ ((Kd.R_reads' HO250.out).2.2))
     (case side4 => exact (Kd.R_reads' HO250.out).2.1)
     (case side5 => exact zk_ ((Kd.R_reads' HO243.out).2.2))
     (case side6 => exact (Kd.R_reads' HO243.out).2.1)
     (case side7 => exact zk_ (Kd.C_below HR2.out HB.out))
     (case side8 => exact HC2.out)
     rintro e w38 ⟨v255, v258, rfl, ho0, ho1, hb⟩
     refine ⟨_, rfl, ?_⟩
     have HO256 := Aside0.mk (Kd.R_lower (Kd.R_new' (Kd.R_new' ho0 (Kd.R_lt (zr_ HO243.out))) (Kd.R_lt (zr_ HO253.out))) (below_size (zw2_ HB GE244 GE261)))
     replace HO243 := ze_ HO243 ho0 hb
     replace HO253 := ze_ HO253 ho0 hb
     have HO259 := Aside0.mk (Kd.R_lower (Kd.R_new' ho1 (Kd.R_lt (zr_ HO250.out))) (below_size (zw2_ HB GE244 GE261)))
     replace HO250 := ze_ HO250 ho1 hb
     replace BK244 := za_ BK244 hb
     replace BK261 := za_ BK261 hb
     replace HB := Aside0.mk (below_step (zw2_ HB GE244 GE261) hb)
     (try clear hb)
     (try clear hb2)
     (try clear hk)
     (try clear hi)
     (try clear ho0)
     (try clear ho1)
     refine hK.out _ _ ⟨zx_ BK244 0, zx_ BK244 1⟩ (fun hHeld => ?_)
     clear hK K
     refine zq_ (some 38) (h := ?_)
     refine yp_ ?_ 7 31
     refine yp_ ?_ 8 39
     refine yp_ ?_ 9 40
     exact zj_ (hJ1_3_4_6_10 (v246, .slice Ao37 y248.length co37, .slice Ao36 t251.length co36, v255, v258, gb261) _ ⟨hHeld, (zr_ HO243.out), (zr_ (Kd.R_mono HO250.out (fun _ hk => hk.2))), (zr_ HO253.out), (zr_ (Kd.R_mono HO256.out (fun _ hk => ⟨hk.1.2, hk.2⟩))), (zr_ (Kd.R_mono HO259.out (fun _ hk => hk.2))), (zb_ BK244), (zb_ BK261), GW261.out, GE261.out, NB244_261.out, NB261_244.out, (zw2_ HB GE244 GE261)⟩)
    skip
    rintro ⟨v246, v249, v252, v255, v258⟩ w36 ⟨hS_, h0_, h1_, h2_, h3_, h4_, h5_, h6_⟩
    (try dsimp only at h0_ h1_ h2_ h3_ h4_ h5_ h6_)
    clear HO243 BK244 HB
    have HO243 := Aside0.mk h0_
    have HO250 := Aside0.mk h1_
    have HO253 := Aside0.mk h2_
    have HO256 := Aside0.mk h3_
    have HO259 := Aside0.mk h4_
    have BK244 := Aside0.mk h5_
    have HB := Aside0.mk h6_
    clear h0_ h1_ h2_ h3_ h4_ h5_ h6_
    have hHeld : w36.cell? ⟨gb244, 0, none⟩ = some (.slice Ao25 t241.length co25) ∧ w36.cell? ⟨gb244, 1, none⟩ = some (.slice A2 l2.length c2) := hS_
    refine zi_ (h := ?_)
    refine yo_ 10 (some 8) (fun K hK => ?_)
    refine box_step ?hg (N := 8) ?hd (cs := #[.slice none 0 0, .slice none 0 0]) (t := 25) ?hr ?_; (case hd => rfl); (case hg => rfl); (case hr => first | (go_simp; done) | (go_simp; rfl))
    intro gb261 hg w37 hbox hb
    replace HO243 := zy_ HO243 hb
    replace HO250 := zy_ HO250 hb
    replace HO253 := zy_ HO253 hb
    replace HO256 := zy_ HO256 hb
    replace HO259 := zy_ HO259 hb
    have BK261 := Aside0.mk (hbox)
    have GW261 := Aside0.mk (zs_ hg (zw1_ HB GE244))
    have GE261 := Aside0.mk (zs_ hg (zw1_ HB GE244))
    replace HB := Aside0.mk (below_step (zw1_ HB GE244) hb)
    have NB244_261 := Aside0.mk (zn_ hg BK244)
    have NB261_244 := Aside0.mk (zm_ hg BK244)
    replace BK244 := za_ BK244 hb
    clear hb hbox hg
    refine hK.out _ _ ⟨zx_ BK244 0, zx_ BK244 1⟩ (fun hHeld => ?_)
    clear hK K
    refine zq_ (some 8) (h := ?_)
    exact zj_ (hJ1_3_4_6_10 (v246, v249, v252, v255, v258, gb261) _ ⟨hHeld, (zr_ HO243.out), (zr_ HO250.out), (zr_ HO253.out), (zr_ HO256.out), (zr_ HO259.out), (zb_ BK244), (zb_ BK261), GW261.out, GE261.out, NB244_261.out, NB261_244.out, (zw2_ HB GE244 GE261)⟩)
   rintro ⟨v246, v249, v252, v255, v258, gb261⟩ w37 ⟨hS_, h0_, h1_, h2_, h3_, h4_, h5_, h6_, h7_, h8_, h9_, h10_, h11_⟩
   (try dsimp only at h0_ h1_ h2_ h3_ h4_ h5_ h6_ h7_ h8_ h9_ h10_ h11_)
   clear HO243 BK244 HB
   have HO243 := Aside0.mk h0_
   have HO250 := Aside0.mk h1_
   have HO253 := Aside0.mk h2_
   have HO256 := Aside0.mk h3_
   have HO259 := Aside0.mk h4_
   have BK244 := Aside0.mk h5_
   have BK261 := Aside0.mk h6_
   have GW261 := Aside0.mk h7_
   have GE261 := Aside0.mk h8_
   have NB244_261 := Aside0.mk h9_
   have NB261_244 := Aside0.mk h10_
   have HB := Aside0.mk h11_
   clear h0_ h1_ h2_ h3_ h4_ h5_ h6_ h7_ h8_ h9_ h10_ h11_
   have hHeld : w37.cell? ⟨gb244, 0, none⟩ = some (.slice Ao25 t241.length co25) ∧ w37.cell? ⟨gb244, 1, none⟩ = some (.slice A2 l2.length c2) := hS_
   obtain ⟨Ao38, co38, eo38⟩ := Kd.R_slice HO256.out
   (first | subst eo38 | (injection eo38 with f1_ f2_ f3_; have f4_ := f1_.symm; have f5_ := f3_.symm; clear f1_ f2_ f3_; subst f4_; subst f5_))
   obtain ⟨Ao40, co40, eo40⟩ := Kd.R_slice HO259.out
   (first | subst eo40 | (injection eo40 with f1_ f2_ f3_; have f4_ := f1_.symm; have f5_ := f3_.symm; clear f1_ f2_ f3_; subst f4_; subst f5_))
   refine zi_ (h := ?_)
   refine yo_ 11 none (fun K hK => ?_)
   have hs39 := zx_ (v := .slice none 0 0) BK261 0
   have hfs39 := blk_frozen BK261.out 0
   have hns39_0 := NB244_261.out
   have hms39_0 := NB261_244.out
   have hs41 := zx_ (v := .slice none 0 0) BK261 1
   have hfs41 := blk_frozen BK261.out 1
   have hns41_0 := NB244_261.out
   have hms41_0 := NB261_244.out
   refine skip_ (w1 := ?_) (by rfl) rfl ?_ ?_
   rotate_left
   ·go_simp
    rfl
   refine hK.out _ _ ⟨((cell_far (p := ⟨gb261, _, none⟩) NB244_261.out _).trans (((cell_far (p := ⟨gb261, _, none⟩) NB244_261.out _).trans (hHeld.1)))), ((cell_far (p := ⟨gb261, _, none⟩) NB244_261.out _).trans (((cell_far (p := ⟨gb261, _, none⟩) NB244_261.out _).trans (hHeld.2))))⟩ (fun hHeld => ?_)
   clear hK K
   refine yp_ ?_ 12 9
   refine done_ (done_of HT_.out (by kernel_rfl)) ?_
   try go_wp2
   have n0_ : Aside0 (Kd.R (Kd.int .i64) 3 ((w37.setCell ⟨gb261, 0, none⟩ (.slice Ao38 t254.length co38)).setCell ⟨gb261, 1, none⟩ (.slice Ao40 t257.length co40)) w.heap.size (fun k_ => some k_ ≠ (v252 : Value).ownBlock ∧ some k_ ≠ (.slice Ao38 t254.length co38 : Value).ownBlock) (.slice Ao25 t241.length co25) t241) := ⟨zr_ (Kd.R_mono (Kd.R_far (p := ⟨gb261, 1, none⟩) (Kd.R_far (p := ⟨gb261, 0, none⟩) (Kd.R_types HO243.out BK261.out (by decide)) (fun _ hk => hk.2) (.slice Ao38 t254.length co38)) (fun _ hk => hk.2) (.slice Ao40 t257.length co40)) (fun _ hk => ⟨hk.1.1, hk.1.2⟩))⟩
   have n1_ : Aside0 (Kd.R (Kd.int .i64) 33 ((w37.setCell ⟨gb261, 0, none⟩ (.slice Ao38 t254.length co38)).setCell ⟨gb261, 1, none⟩ (.slice Ao40 t257.length co40)) w.heap.size (fun k_ => some k_ ≠ (.slice Ao40 t257.length co40 : Value).ownBlock) v249 y248) := ⟨zr_ (Kd.R_mono (Kd.R_far (p := ⟨gb261, 1, none⟩) (Kd.R_far (p := ⟨gb261, 0, none⟩) (Kd.R_types HO250.out BK261.out (by decide)) (fun _ hk => hk.2) (.slice Ao38 t254.length co38)) (fun _ hk => hk.2) (.slice Ao40 t257.length co40)) (fun _ hk => hk.1))⟩
   have n2_ : Aside0 (Kd.R (Kd.int .i64) 3 ((w37.setCell ⟨gb261, 0, none⟩ (.slice Ao38 t254.length co38)).setCell ⟨gb261, 1, none⟩ (.slice Ao40 t257.length co40)) w.heap.size (fun k_ => some k_ ≠ (.slice Ao25 t241.length co25 : Value).ownBlock ∧ some k_ ≠ (.slice Ao38 t254.length co38 : Value).ownBlock) v252 t251) := ⟨zr_ (Kd.R_mono (Kd.R_far (p := ⟨gb261, 1, none⟩) (Kd.R_far (p := ⟨gb261, 0, none⟩) (Kd.R_types HO253.out BK261.out (by decide)) (fun _ hk => hk.2) (.slice Ao38 t254.length co38)) (fun _ hk => hk.2) (.slice Ao40 t257.length co40)) (fun _ hk => ⟨hk.1.1, hk.1.2⟩))⟩
   have n3_ : Aside0 (Kd.R (Kd.int .i64) 3 ((w37.setCell ⟨gb261, 0, none⟩ (.slice Ao38 t254.length co38)).setCell ⟨gb261, 1, none⟩ (.slice Ao40 t257.length co40)) w.heap.size (fun k_ => some k_ ≠ (.slice Ao25 t241.length co25 : Value).ownBlock ∧ some k_ ≠ (v252 : Value).ownBlock) (.slice Ao38 t254.length co38) t254) := ⟨zr_ (Kd.R_mono (Kd.R_far (p := ⟨gb261, 1, none⟩) (Kd.R_far (p := ⟨gb261, 0, none⟩) (Kd.R_types HO256.out BK261.out (by decide)) (fun _ hk => hk.2) (.slice Ao38 t254.length co38)) (fun _ hk => hk.2) (.slice Ao40 t257.length co40)) (fun _ hk => ⟨hk.1.1, hk.1.2⟩))⟩
   have n4_ : Aside0 (Kd.R (Kd.int .i64) 33 ((w37.setCell ⟨gb261, 0, none⟩ (.slice Ao38 t254.length co38)).setCell ⟨gb261, 1, none⟩ (.slice Ao40 t257.length co40)) w.heap.size (fun k_ => some k_ ≠ (v249 : Value).ownBlock) (.slice Ao40 t257.length co40) t257) := ⟨zr_ (Kd.R_mono (Kd.R_far (p := ⟨gb261, 1, none⟩) (Kd.R_far (p := ⟨gb261, 0, none⟩) (Kd.R_types HO259.out BK261.out (by decide)) (fun _ hk => hk.2) (.slice Ao38 t254.length co38)) (fun _ hk => hk.2) (.slice Ao40 t257.length co40)) (fun _ hk => hk.1))⟩
   have n5_ : Aside0 (((w37.setCell ⟨gb261, 0, none⟩ (.slice Ao38 t254.length co38)).setCell ⟨gb261, 1, none⟩ (.slice Ao40 t257.length co40)).heap[gb244]? = some (.cells #[.slice Ao25 t241.length co25, .slice A2 l2.length c2] 25 (0, 0))) := ⟨zv1_ BK244 NB244_261⟩
   have n6_ : Aside0 (((w37.setCell ⟨gb261, 0, none⟩ (.slice Ao38 t254.length co38)).setCell ⟨gb261, 1, none⟩ (.slice Ao40 t257.length co40)).heap[gb261]? = some (.cells #[.slice Ao38 t254.length co38, .slice Ao40 t257.length co40] 25 (0, 0))) := ⟨zo2_ BK261⟩
   have n7_ : Aside0 (Below w.heap.size w ((w37.setCell ⟨gb261, 0, none⟩ (.slice Ao38 t254.length co38)).setCell ⟨gb261, 1, none⟩ (.slice Ao40 t257.length co40))) := ⟨zw2_ HB GE244 GE261⟩
   (try clear HO243)
   (try clear HO250)
   (try clear HO253)
   (try clear HO256)
   (try clear HO259)
   (try clear BK244)
   (try clear BK261)
   (try clear HB)
   generalize ((w37.setCell ⟨gb261, 0, none⟩ (.slice Ao38 t254.length co38)).setCell ⟨gb261, 1, none⟩ (.slice Ao40 t257.length co40)) = w42 at n0_ n1_ n2_ n3_ n4_ n5_ n6_ n7_ ⊢
   have HO243 := n0_
   have HO250 := n1_
   have HO253 := n2_
   have HO256 := n3_
   have HO259 := n4_
   have BK244 := n5_
   have BK261 := n6_
   have HB := n7_
   clear n0_ n1_ n2_ n3_ n4_ n5_ n6_ n7_
   replace HO243 := Aside0.mk (Kd.R_drew HO243.out)
   replace HO250 := Aside0.mk (Kd.R_drew HO250.out)
   replace HO253 := Aside0.mk (Kd.R_drew HO253.out)
   replace HO256 := Aside0.mk (Kd.R_drew HO256.out)
   replace HO259 := Aside0.mk (Kd.R_drew HO259.out)
   replace BK244 := Aside0.mk (blk_drew BK244.out)
   replace BK261 := Aside0.mk (blk_drew BK261.out)
   replace HB := Aside0.mk (below_drew1 HB.out)
   refine start_ (n := 10) (S := fun w' => w'.cell? ⟨gb244, 0, none⟩ = some (.slice Ao25 t241.length co25) ∧ w'.cell? ⟨gb244, 1, none⟩ = some (.slice A2 l2.length c2)) (ds := []) #[false, false, false, false, false, false, false, false, false, false] (by kernel_rfl) rfl rfl ⟨(blk_cell BK244.out 0).trans rfl, (blk_cell BK244.out 1).trans rfl⟩ (fun hHeld => ?_); refine with_tabW carousellaw8_ConvShifts.tab7 carousellaw8_ConvShifts.bits7 (fun HT_ HW_ => ?_)
   generalize w42.drew = w43 at HO243 HO250 HO253 HO256 HO259 BK244 BK261 HB hHeld ⊢
   refine yp_ ?_ 0 42
   refine yt2_ ?_ 2 44
   refine join_ (σ := Value × Value × Value × Nat) 2 #[true, true, true, true, true, true, true, true, false, false] (fun s_ => [(43, .agg #[s_.1, .slice A1 l1.length c1]), (45, .tuple #[.agg #[s_.2.1, s_.2.2.1], .int .i64 t271]), (10, .pointer (some ⟨s_.2.2.2, 0, none⟩)), (41, .tuple #[.agg #[s_.2.1, s_.2.2.1], .int .i64 t271]), (46, .agg #[s_.2.1, s_.2.2.1]), (47, .int .i64 t271)]) (fun s_ w' => (w'.cell? ⟨gb244, 0, none⟩ = some (.slice Ao25 t241.length co25) ∧ w'.cell? ⟨gb244, 1, none⟩ = some (.slice A2 l2.length c2)) ∧ (Kd.R (Kd.int .i64) 3 w' w.heap.size (fun k_ => some k_ ≠ (v252 : Value).ownBlock ∧ some k_ ≠ (.slice Ao38 t254.length co38 : Value).ownBlock ∧ some k_ ≠ (s_.1 : Value).ownBlock ∧ some k_ ≠ (s_.2.1 : Value).ownBlock) (.slice Ao25 t241.length co25) t241) ∧ (Kd.R (Kd.int .i64) 33 w' w.heap.size (fun k_ => some k_ ≠ (.slice Ao40 t257.length co40 : Value).ownBlock ∧ some k_ ≠ (s_.2.2.1 : Value).ownBlock) v249 y248) ∧ (Kd.R (Kd.int .i64) 3 w' w.heap.size (fun k_ => some k_ ≠ (.slice Ao25 t241.length co25 : Value).ownBlock ∧ some k_ ≠ (.slice Ao38 t254.length co38 : Value).ownBlock ∧ some k_ ≠ (s_.1 : Value).ownBlock ∧ some k_ ≠ (s_.2.1 : Value).ownBlock) v252 t251) ∧ (Kd.R (Kd.int .i64) 3 w' w.heap.size (fun k_ => some k_ ≠ (.slice Ao25 t241.length co25 : Value).ownBlock ∧ some k_ ≠ (v252 : Value).ownBlock ∧ some k_ ≠ (s_.1 : Value).ownBlock ∧ some k_ ≠ (s_.2.1 : Value).ownBlock) (.slice Ao38 t254.length co38) t254) ∧ (Kd.R (Kd.int .i64) 33 w' w.heap.size (fun k_ => some k_ ≠ (v249 : Value).ownBlock ∧ some k_ ≠ (s_.2.2.1 : Value).ownBlock) (.slice Ao40 t257.length co40) t257) ∧ (Kd.R (Kd.int .i64) 3 w' w.heap.size (fun k_ => some k_ ≠ (.slice Ao25 t241.length co25 : Value).ownBlock ∧ some k_ ≠ (v252 : Value).ownBlock ∧ some k_ ≠ (.slice Ao38 t254.length co38 : Value).ownBlock ∧ some k_ ≠ (s_.2.1 : Value).ownBlock) s_.1 t262) ∧ (Kd.R (Kd.int .i64) 3 w' w.heap.size (fun k_ => some k_ ≠ (.slice Ao25 t241.length co25 : Value).ownBlock ∧ some k_ ≠ (v252 : Value).ownBlock ∧ some k_ ≠ (.slice Ao38 t254.length co38 : Value).ownBlock ∧ some k_ ≠ (s_.1 : Value).ownBlock) s_.2.1 t265) ∧ (Kd.R (Kd.int .i64) 33 w' w.heap.size (fun k_ => some k_ ≠ (v249 : Value).ownBlock ∧ some k_ ≠ (.slice Ao40 t257.length co40 : Value).ownBlock) s_.2.2.1 t268) ∧ (w'.heap[gb244]? = some (.cells #[.slice Ao25 t241.length co25, .slice A2 l2.length c2] 25 (0, 0))) ∧ (w'.heap[gb261]? = some (.cells #[.slice Ao38 t254.length co38, .slice Ao40 t257.length co40] 25 (0, 0))) ∧ (w'.heap[s_.2.2.2]? = some (.cells #[.slice none 0 0, .slice none 0 0] 25 (0, 0))) ∧ (w.heap.size ≤ s_.2.2.2) ∧ (w.heap.size ≤ s_.2.2.2) ∧ (gb244 ≠ s_.2.2.2) ∧ (s_.2.2.2 ≠ gb244) ∧ (gb261 ≠ s_.2.2.2) ∧ (s_.2.2.2 ≠ gb261) ∧ (Below w.heap.size w w')) ?_ ?_
   rotate_left
   ·intro hCont
    refine two_ (i := 1) (j := 7) (Ni := some 43) (Nj := some 10) #[true, true, true, false, false, false, false, false, false, false] #[true, false, true, false, false, false, false, true, false, false] rfl rfl rfl rfl (two_of HT_.out (by kernel_rfl)) (by decide) (by decide) (fun K hK => ?_) (fun K hK => ?_)
    ·skip
     refine yg_ Try.func17 #[.int .i64 1, .slice A1 l1.length c1] ?_
     with_reducible refine (carousellaw8_rows.calls 1 _ _ l1 t262 _ ?side1 ?side2 A15.out).mono ?_
     (case side1 => exact zk_ (Kd.C_below HR1.out HB.out))
     (case side2 => exact HC1.out)
     rintro e w44 ⟨v263, rfl, ho0, hb⟩
     refine ⟨_, rfl, ?_⟩
     replace HO250 := zy_ HO250 hb
     replace HO259 := zy_ HO259 hb
     have HO264 := Aside0.mk (Kd.R_lower (Kd.R_new' (Kd.R_new' (Kd.R_new' ho0 (Kd.R_lt (zr_ HO243.out))) (Kd.R_lt (zr_ HO253.out))) (Kd.R_lt (zr_ HO256.out))) (below_size (zw2_ HB GE244 GE261)))
     replace HO243 := ze_ HO243 ho0 hb
     replace HO253 := ze_ HO253 ho0 hb
     replace HO256 := ze_ HO256 ho0 hb
     replace BK244 := za_ BK244 hb
     replace BK261 := za_ BK261 hb
     replace HB := Aside0.mk (below_step (zw2_ HB GE244 GE261) hb)
     (try clear hb)
     (try clear hb2)
     (try clear hk)
     (try clear hi)
     (try clear ho0)
     obtain ⟨Ao45, co45, eo45⟩ := Kd.R_slice HO264.out
     (first | subst eo45 | (injection eo45 with f1_ f2_ f3_; have f4_ := f1_.symm; have f5_ := f3_.symm; clear f1_ f2_ f3_; subst f4_; subst f5_))
     refine hK.out _ _ ⟨zx_ BK244 0, zx_ BK244 1⟩ (fun hHeld => ?_)
     clear hK K
     refine zq_ (some 43) (h := ?_)
     refine two_ (i := 3) (j := 7) (Ni := some 45) (Nj := some 10) #[true, true, true, true, false, false, false, false, false, false] #[true, true, true, false, false, false, false, true, false, false] rfl rfl rfl rfl (two_of HT_.out (by kernel_rfl)) (by decide) (by decide) (fun K hK => ?_) (fun K hK => ?_)
     ·skip
      refine yg_ Try.func13 #[.agg #[.slice Ao45 t262.length co45, .slice A1 l1.length c1], .agg #[.slice Ao25 t241.length co25, .slice A2 l2.length c2], .int .i64 1] ?_
      with_reducible refine (conv_Row.calls kj5 _ _ t262 _ _ l1 _ _ t241 _ _ l2 1 t265 t268 t271 _ ?side1 ?side2 ?side3 ?side4 ?side5 ?side6 ?side7 ?side8 A16.out).mono ?_
      (case side1 => exact zk_ ((Kd.R_reads' HO264.out).2.2))
      (case side2 => exact (Kd.R_reads' HO264.out).2.1)
      (case side3 => exact zk_ (Kd.C_below HR1.out HB.out))
      (case side4 => exact HC1.out)
      (case side5 => exact zk_ ((Kd.R_reads' HO243.out).2.2))
      (case side6 => exact (Kd.R_reads' HO243.out).2.1)
      (case side7 => exact zk_ (Kd.C_below HR2.out HB.out))
      (case side8 => exact HC2.out)
      rintro e w46 ⟨v266, v269, rfl, ho0, ho1, hb⟩
      refine ⟨_, rfl, ?_⟩
      have HO267 := Aside0.mk (Kd.R_lower (Kd.R_new' (Kd.R_new' (Kd.R_new' (Kd.R_new' ho0 (Kd.R_lt (zr_ HO243.out))) (Kd.R_lt (zr_ HO253.out))) (Kd.R_lt (zr_ HO256.out))) (Kd.R_lt (zr_ HO264.out))) (below_size (zw2_ HB GE244 GE261)))
      replace HO243 := ze_ HO243 ho0 hb
      replace HO253 := ze_ HO253 ho0 hb
      replace HO256 := ze_ HO256 ho0 hb
      replace HO264 := ze_ HO264 ho0 hb
      have HO270 := Aside0.mk (Kd.R_lower (Kd.R_new' (Kd.R_new' ho1 (Kd.R_lt (zr_ HO250.out))) (Kd.R_lt (zr_ HO259.out))) (below_size (zw2_ HB GE244 GE261)))
      replace HO250 := ze_ HO250 ho1 hb
      replace HO259 := ze_ HO259 ho1 hb
      replace BK244 := za_ BK244 hb
      replace BK261 := za_ BK261 hb
      replace HB := Aside0.mk (below_step (zw2_ HB GE244 GE261) hb)
      (try clear hb)
      (try clear hb2)
      (try clear hk)
      (try clear hi)
      (try clear ho0)
      (try clear ho1)
      refine hK.out _ _ ⟨zx_ BK244 0, zx_ BK244 1⟩ (fun hHeld => ?_)
      clear hK K
      refine zq_ (some 45) (h := ?_)
      refine yp_ ?_ 4 41
      refine yp_ ?_ 5 46
      refine yp_ ?_ 6 47
      refine yo_ 7 (some 10) (fun K hK => ?_)
      refine box_step ?hg (N := 10) ?hd (cs := #[.slice none 0 0, .slice none 0 0]) (t := 25) ?hr ?_; (case hd => rfl); (case hg => rfl); (case hr => first | (go_simp; done) | (go_simp; rfl))
      intro gb272 hg w47 hbox hb
      replace HO243 := zy_ HO243 hb
      replace HO250 := zy_ HO250 hb
      replace HO253 := zy_ HO253 hb
      replace HO256 := zy_ HO256 hb
      replace HO259 := zy_ HO259 hb
      replace HO264 := zy_ HO264 hb
      replace HO267 := zy_ HO267 hb
      replace HO270 := zy_ HO270 hb
      have BK272 := Aside0.mk (hbox)
      have GW272 := Aside0.mk (zs_ hg (zw2_ HB GE244 GE261))
      have GE272 := Aside0.mk (zs_ hg (zw2_ HB GE244 GE261))
      replace HB := Aside0.mk (below_step (zw2_ HB GE244 GE261) hb)
      have NB244_272 := Aside0.mk (zn_ hg BK244)
      have NB272_244 := Aside0.mk (zm_ hg BK244)
      replace BK244 := za_ BK244 hb
      have NB261_272 := Aside0.mk (zn_ hg BK261)
      have NB272_261 := Aside0.mk (zm_ hg BK261)
      replace BK261 := za_ BK261 hb
      clear hb hbox hg
      refine hK.out _ _ ⟨zx_ BK244 0, zx_ BK244 1⟩ (fun hHeld => ?_)
      clear hK K
      refine zq_ (some 10) (h := ?_)
      exact zj_ (hCont (.slice Ao45 t262.length co45, v266, v269, gb272) _ ⟨hHeld, (zr_ (Kd.R_mono HO243.out (fun _ hk => ⟨hk.1.1.1, ⟨hk.1.1.2, ⟨hk.1.2, hk.2⟩⟩⟩))), (zr_ HO250.out), (zr_ (Kd.R_mono HO253.out (fun _ hk => ⟨hk.1.1.1, ⟨hk.1.1.2, ⟨hk.1.2, hk.2⟩⟩⟩))), (zr_ (Kd.R_mono HO256.out (fun _ hk => ⟨hk.1.1.1, ⟨hk.1.1.2, ⟨hk.1.2, hk.2⟩⟩⟩))), (zr_ HO259.out), (zr_ (Kd.R_mono HO264.out (fun _ hk => ⟨hk.1.1.1.2, ⟨hk.1.1.2, ⟨hk.1.2, hk.2⟩⟩⟩))), (zr_ (Kd.R_mono HO267.out (fun _ hk => ⟨hk.1.1.1.2, ⟨hk.1.1.2, ⟨hk.1.2, hk.2⟩⟩⟩))), (zr_ (Kd.R_mono HO270.out (fun _ hk => ⟨hk.1.2, hk.2⟩))), (zb_ BK244), (zb_ BK261), (zb_ BK272), GW272.out, GE272.out, NB244_272.out, NB272_244.out, NB261_272.out, NB272_261.out, (zw3_ HB GE244 GE261 GE272)⟩)
     skip
     refine box_step ?hg (N := 10) ?hd (cs := #[.slice none 0 0, .slice none 0 0]) (t := 25) ?hr ?_; (case hd => rfl); (case hg => rfl); (case hr => first | (go_simp; done) | (go_simp; rfl))
     intro gb272 hg w45 hbox hb
     replace HO243 := zy_ HO243 hb
     replace HO250 := zy_ HO250 hb
     replace HO253 := zy_ HO253 hb
     replace HO256 := zy_ HO256 hb
     replace HO259 := zy_ HO259 hb
     replace HO264 := zy_ HO264 hb
     have BK272 := Aside0.mk (hbox)
     have GW272 := Aside0.mk (zs_ hg (zw2_ HB GE244 GE261))
     have GE272 := Aside0.mk (zs_ hg (zw2_ HB GE244 GE261))
     replace HB := Aside0.mk (below_step (zw2_ HB GE244 GE261) hb)
     have NB244_272 := Aside0.mk (zn_ hg BK244)
     have NB272_244 := Aside0.mk (zm_ hg BK244)
     replace BK244 := za_ BK244 hb
     have NB261_272 := Aside0.mk (zn_ hg BK261)
     have NB272_261 := Aside0.mk (zm_ hg BK261)
     replace BK261 := za_ BK261 hb
     clear hb hbox hg
     obtain ⟨Ao46, co46, eo46⟩ := Kd.R_slice HO264.out
     (first | subst eo46 | (injection eo46 with f1_ f2_ f3_; have f4_ := f1_.symm; have f5_ := f3_.symm; clear f1_ f2_ f3_; subst f4_; subst f5_))
     refine hK.out _ _ ⟨zx_ BK244 0, zx_ BK244 1⟩ (fun hHeld => ?_)
     clear hK K
     refine zq_ (some 10) (h := ?_)
     refine yo_ 3 (some 45) (fun K hK => ?_)
     refine yg_ Try.func13 #[.agg #[.slice Ao46 t262.length co46, .slice A1 l1.length c1], .agg #[.slice Ao25 t241.length co25, .slice A2 l2.length c2], .int .i64 1] ?_
     with_reducible refine (conv_Row.calls kj5 _ _ t262 _ _ l1 _ _ t241 _ _ l2 1 t265 t268 t271 _ ?side1 ?side2 ?side3 ?side4 ?side5 ?side6 ?side7 ?side8 A16.out).mono ?_
     (case side1 => exact zk_ ((Kd.R_reads' HO264.out).2.2))
     (case side2 => exact (Kd.R_reads' HO264.out).2.1)
     (case side3 => exact zk_ (Kd.C_below HR1.out HB.out))
     (case side4 => exact HC1.out)
     (case side5 => exact zk_ ((Kd.R_reads' HO243.out).2.2))
     (case side6 => exact (Kd.R_reads' HO243.out).2.1)
     (case side7 => exact zk_ (Kd.C_below HR2.out HB.out))
     (case side8 => exact HC2.out)
     rintro e w47 ⟨v266, v269, rfl, ho0, ho1, hb⟩
     refine ⟨_, rfl, ?_⟩
     have HO267 := Aside0.mk (Kd.R_lower (Kd.R_new' (Kd.R_new' (Kd.R_new' (Kd.R_new' ho0 (Kd.R_lt (zr_ HO243.out))) (Kd.R_lt (zr_ HO253.out))) (Kd.R_lt (zr_ HO256.out))) (Kd.R_lt (zr_ HO264.out))) (below_size (zw3_ HB GE244 GE261 GE272)))
     replace HO243 := ze_ HO243 ho0 hb
     replace HO253 := ze_ HO253 ho0 hb
     replace HO256 := ze_ HO256 ho0 hb
     replace HO264 := ze_ HO264 ho0 hb
     have HO270 := Aside0.mk (Kd.R_lower (Kd.R_new' (Kd.R_new' ho1 (Kd.R_lt (zr_ HO250.out))) (Kd.R_lt (zr_ HO259.out))) (below_size (zw3_ HB GE244 GE261 GE272)))
     replace HO250 := ze_ HO250 ho1 hb
     replace HO259 := ze_ HO259 ho1 hb
     replace BK244 := za_ BK244 hb
     replace BK261 := za_ BK261 hb
     replace BK272 := za_ BK272 hb
     replace HB := Aside0.mk (below_step (zw3_ HB GE244 GE261 GE272) hb)
     (try clear hb)
     (try clear hb2)
     (try clear hk)
     (try clear hi)
     (try clear ho0)
     (try clear ho1)
     refine hK.out _ _ ⟨zx_ BK244 0, zx_ BK244 1⟩ (fun hHeld => ?_)
     clear hK K
     refine zq_ (some 45) (h := ?_)
     refine yp_ ?_ 4 41
     refine yp_ ?_ 5 46
     refine yp_ ?_ 6 47
     exact zj_ (hCont (.slice Ao46 t262.length co46, v266, v269, gb272) _ ⟨hHeld, (zr_ (Kd.R_mono HO243.out (fun _ hk => ⟨hk.1.1.1, ⟨hk.1.1.2, ⟨hk.1.2, hk.2⟩⟩⟩))), (zr_ HO250.out), (zr_ (Kd.R_mono HO253.out (fun _ hk => ⟨hk.1.1.1, ⟨hk.1.1.2, ⟨hk.1.2, hk.2⟩⟩⟩))), (zr_ (Kd.R_mono HO256.out (fun _ hk => ⟨hk.1.1.1, ⟨hk.1.1.2, ⟨hk.1.2, hk.2⟩⟩⟩))), (zr_ HO259.out), (zr_ (Kd.R_mono HO264.out (fun _ hk => ⟨hk.1.1.1.2, ⟨hk.1.1.2, ⟨hk.1.2, hk.2⟩⟩⟩))), (zr_ (Kd.R_mono HO267.out (fun _ hk => ⟨hk.1.1.1.2, ⟨hk.1.1.2, ⟨hk.1.2, hk.2⟩⟩⟩))), (zr_ (Kd.R_mono HO270.out (fun _ hk => ⟨hk.1.2, hk.2⟩))), (zb_ BK244), (zb_ BK261), (zb_ BK272), GW272.out, GE272.out, NB244_272.out, NB272_244.out, NB261_272.out, NB272_261.out, (zw3_ HB GE244 GE261 GE272)⟩)
    skip
    refine box_step ?hg (N := 10) ?hd (cs := #[.slice none 0 0, .slice none 0 0]) (t := 25) ?hr ?_; (case hd => rfl); (case hg => rfl); (case hr => first | (go_simp; done) | (go_simp; rfl))
    intro gb272 hg w44 hbox hb
    replace HO243 := zy_ HO243 hb
    replace HO250 := zy_ HO250 hb
    replace HO253 := zy_ HO253 hb
    replace HO256 := zy_ HO256 hb
    replace HO259 := zy_ HO259 hb
    have BK272 := Aside0.mk (hbox)
    have GW272 := Aside0.mk (zs_ hg (zw2_ HB GE244 GE261))
    have GE272 := Aside0.mk (zs_ hg (zw2_ HB GE244 GE261))
    replace HB := Aside0.mk (below_step (zw2_ HB GE244 GE261) hb)
    have NB244_272 := Aside0.mk (zn_ hg BK244)
    have NB272_244 := Aside0.mk (zm_ hg BK244)
    replace BK244 := za_ BK244 hb
    have NB261_272 := Aside0.mk (zn_ hg BK261)
    have NB272_261 := Aside0.mk (zm_ hg BK261)
    replace BK261 := za_ BK261 hb
    clear hb hbox hg
    refine hK.out _ _ ⟨zx_ BK244 0, zx_ BK244 1⟩ (fun hHeld => ?_)
    clear hK K
    refine zq_ (some 10) (h := ?_)
    refine yo_ 1 (some 43) (fun K hK => ?_)
    refine yg_ Try.func17 #[.int .i64 1, .slice A1 l1.length c1] ?_
    with_reducible refine (carousellaw8_rows.calls 1 _ _ l1 t262 _ ?side1 ?side2 A15.out).mono ?_
    (case side1 => exact zk_ (Kd.C_below HR1.out HB.out))
    (case side2 => exact HC1.out)
    rintro e w45 ⟨v263, rfl, ho0, hb⟩
    refine ⟨_, rfl, ?_⟩
    replace HO250 := zy_ HO250 hb
    replace HO259 := zy_ HO259 hb
    have HO264 := Aside0.mk (Kd.R_lower (Kd.R_new' (Kd.R_new' (Kd.R_new' ho0 (Kd.R_lt (zr_ HO243.out))) (Kd.R_lt (zr_ HO253.out))) (Kd.R_lt (zr_ HO256.out))) (below_size (zw3_ HB GE244 GE261 GE272)))
    replace HO243 := ze_ HO243 ho0 hb
    replace HO253 := ze_ HO253 ho0 hb
    replace HO256 := ze_ HO256 ho0 hb
    replace BK244 := za_ BK244 hb
    replace BK261 := za_ BK261 hb
    replace BK272 := za_ BK272 hb
    replace HB := Aside0.mk (below_step (zw3_ HB GE244 GE261 GE272) hb)
    (try clear hb)
    (try clear hb2)
    (try clear hk)
    (try clear hi)
    (try clear ho0)
    obtain ⟨Ao46, co46, eo46⟩ := Kd.R_slice HO264.out
    (first | subst eo46 | (injection eo46 with f1_ f2_ f3_; have f4_ := f1_.symm; have f5_ := f3_.symm; clear f1_ f2_ f3_; subst f4_; subst f5_))
    refine hK.out _ _ ⟨zx_ BK244 0, zx_ BK244 1⟩ (fun hHeld => ?_)
    clear hK K
    refine zq_ (some 43) (h := ?_)
    refine yo_ 3 (some 45) (fun K hK => ?_)
    refine yg_ Try.func13 #[.agg #[.slice Ao46 t262.length co46, .slice A1 l1.length c1], .agg #[.slice Ao25 t241.length co25, .slice A2 l2.length c2], .int .i64 1] ?_
    with_reducible refine (conv_Row.calls kj5 _ _ t262 _ _ l1 _ _ t241 _ _ l2 1 t265 t268 t271 _ ?side1 ?side2 ?side3 ?side4 ?side5 ?side6 ?side7 ?side8 A16.out).mono ?_
    (case side1 => exact zk_ ((Kd.R_reads' HO264.out).2.2))
    (case side2 => exact (Kd.R_reads' HO264.out).2.1)
    (case side3 => exact zk_ (Kd.C_below HR1.out HB.out))
    (case side4 => exact HC1.out)
    (case side5 => exact zk_ ((Kd.R_reads' HO243.out).2.2))
    (case side6 => exact (Kd.R_reads' HO243.out).2.1)
    (case side7 => exact zk_ (Kd.C_below HR2.out HB.out))
    (case side8 => exact HC2.out)
    rintro e w47 ⟨v266, v269, rfl, ho0, ho1, hb⟩
    refine ⟨_, rfl, ?_⟩
    have HO267 := Aside0.mk (Kd.R_lower (Kd.R_new' (Kd.R_new' (Kd.R_new' (Kd.R_new' ho0 (Kd.R_lt (zr_ HO243.out))) (Kd.R_lt (zr_ HO253.out))) (Kd.R_lt (zr_ HO256.out))) (Kd.R_lt (zr_ HO264.out))) (below_size (zw3_ HB GE244 GE261 GE272)))
    replace HO243 := ze_ HO243 ho0 hb
    replace HO253 := ze_ HO253 ho0 hb
    replace HO256 := ze_ HO256 ho0 hb
    replace HO264 := ze_ HO264 ho0 hb
    have HO270 := Aside0.mk (Kd.R_lower (Kd.R_new' (Kd.R_new' ho1 (Kd.R_lt (zr_ HO250.out))) (Kd.R_lt (zr_ HO259.out))) (below_size (zw3_ HB GE244 GE261 GE272)))
    replace HO250 := ze_ HO250 ho1 hb
    replace HO259 := ze_ HO259 ho1 hb
    replace BK244 := za_ BK244 hb
    replace BK261 := za_ BK261 hb
    replace BK272 := za_ BK272 hb
    replace HB := Aside0.mk (below_step (zw3_ HB GE244 GE261 GE272) hb)
    (try clear hb)
    (try clear hb2)
    (try clear hk)
    (try clear hi)
    (try clear ho0)
    (try clear ho1)
    refine hK.out _ _ ⟨zx_ BK244 0, zx_ BK244 1⟩ (fun hHeld => ?_)
    clear hK K
    refine zq_ (some 45) (h := ?_)
    refine yp_ ?_ 4 41
    refine yp_ ?_ 5 46
    refine yp_ ?_ 6 47
    exact zj_ (hCont (.slice Ao46 t262.length co46, v266, v269, gb272) _ ⟨hHeld, (zr_ (Kd.R_mono HO243.out (fun _ hk => ⟨hk.1.1.1, ⟨hk.1.1.2, ⟨hk.1.2, hk.2⟩⟩⟩))), (zr_ HO250.out), (zr_ (Kd.R_mono HO253.out (fun _ hk => ⟨hk.1.1.1, ⟨hk.1.1.2, ⟨hk.1.2, hk.2⟩⟩⟩))), (zr_ (Kd.R_mono HO256.out (fun _ hk => ⟨hk.1.1.1, ⟨hk.1.1.2, ⟨hk.1.2, hk.2⟩⟩⟩))), (zr_ HO259.out), (zr_ (Kd.R_mono HO264.out (fun _ hk => ⟨hk.1.1.1.2, ⟨hk.1.1.2, ⟨hk.1.2, hk.2⟩⟩⟩))), (zr_ (Kd.R_mono HO267.out (fun _ hk => ⟨hk.1.1.1.2, ⟨hk.1.1.2, ⟨hk.1.2, hk.2⟩⟩⟩))), (zr_ (Kd.R_mono HO270.out (fun _ hk => ⟨hk.1.2, hk.2⟩))), (zb_ BK244), (zb_ BK261), (zb_ BK272), GW272.out, GE272.out, NB244_272.out, NB272_244.out, NB261_272.out, NB272_261.out, (zw3_ HB GE244 GE261 GE272)⟩)
   rintro ⟨v263, v266, v269, gb272⟩ w48 ⟨hS_, h0_, h1_, h2_, h3_, h4_, h5_, h6_, h7_, h8_, h9_, h10_, h11_, h12_, h13_, h14_, h15_, h16_, h17_⟩
   (try dsimp only at h0_ h1_ h2_ h3_ h4_ h5_ h6_ h7_ h8_ h9_ h10_ h11_ h12_ h13_ h14_ h15_ h16_ h17_)
   clear HO243 HO250 HO253 HO256 HO259 BK244 BK261 HB
   have HO243 := Aside0.mk h0_
   have HO250 := Aside0.mk h1_
   have HO253 := Aside0.mk h2_
   have HO256 := Aside0.mk h3_
   have HO259 := Aside0.mk h4_
   have HO264 := Aside0.mk h5_
   have HO267 := Aside0.mk h6_
   have HO270 := Aside0.mk h7_
   have BK244 := Aside0.mk h8_
   have BK261 := Aside0.mk h9_
   have BK272 := Aside0.mk h10_
   have GW272 := Aside0.mk h11_
   have GE272 := Aside0.mk h12_
   have NB244_272 := Aside0.mk h13_
   have NB272_244 := Aside0.mk h14_
   have NB261_272 := Aside0.mk h15_
   have NB272_261 := Aside0.mk h16_
   have HB := Aside0.mk h17_
   clear h0_ h1_ h2_ h3_ h4_ h5_ h6_ h7_ h8_ h9_ h10_ h11_ h12_ h13_ h14_ h15_ h16_ h17_
   have hHeld : w48.cell? ⟨gb244, 0, none⟩ = some (.slice Ao25 t241.length co25) ∧ w48.cell? ⟨gb244, 1, none⟩ = some (.slice A2 l2.length c2) := hS_
   obtain ⟨Ao49, co49, eo49⟩ := Kd.R_slice HO267.out
   (first | subst eo49 | (injection eo49 with f1_ f2_ f3_; have f4_ := f1_.symm; have f5_ := f3_.symm; clear f1_ f2_ f3_; subst f4_; subst f5_))
   obtain ⟨Ao51, co51, eo51⟩ := Kd.R_slice HO270.out
   (first | subst eo51 | (injection eo51 with f1_ f2_ f3_; have f4_ := f1_.symm; have f5_ := f3_.symm; clear f1_ f2_ f3_; subst f4_; subst f5_))
   refine zi_ (h := ?_)
   refine yo_ 8 none (fun K hK => ?_)
   have hs50 := zx_ (v := .slice none 0 0) BK272 0
   have hfs50 := blk_frozen BK272.out 0
   have hns50_0 := NB244_272.out
   have hns50_1 := NB261_272.out
   have hms50_0 := NB272_244.out
   have hms50_1 := NB272_261.out
   have hs52 := zx_ (v := .slice none 0 0) BK272 1
   have hfs52 := blk_frozen BK272.out 1
   have hns52_0 := NB244_272.out
   have hns52_1 := NB261_272.out
   have hms52_0 := NB272_244.out
   have hms52_1 := NB272_261.out
   refine skip_ (w1 := ?_) (by rfl) rfl ?_ ?_
   rotate_left
   ·go_simp
    rfl
   refine hK.out _ _ ⟨((cell_far (p := ⟨gb272, _, none⟩) NB244_272.out _).trans (((cell_far (p := ⟨gb272, _, none⟩) NB244_272.out _).trans (hHeld.1)))), ((cell_far (p := ⟨gb272, _, none⟩) NB244_272.out _).trans (((cell_far (p := ⟨gb272, _, none⟩) NB244_272.out _).trans (hHeld.2))))⟩ (fun hHeld => ?_)
   clear hK K
   refine yp_ ?_ 9 11
   refine done_ (done_of HT_.out (by kernel_rfl)) ?_
   try go_wp2
   have n0_ : Aside0 (Kd.R (Kd.int .i64) 3 ((w48.setCell ⟨gb272, 0, none⟩ (.slice Ao49 t265.length co49)).setCell ⟨gb272, 1, none⟩ (.slice Ao51 t268.length co51)) w.heap.size (fun k_ => some k_ ≠ (v252 : Value).ownBlock ∧ some k_ ≠ (.slice Ao38 t254.length co38 : Value).ownBlock ∧ some k_ ≠ (v263 : Value).ownBlock ∧ some k_ ≠ (.slice Ao49 t265.length co49 : Value).ownBlock) (.slice Ao25 t241.length co25) t241) := ⟨zr_ (Kd.R_mono (Kd.R_far (p := ⟨gb272, 1, none⟩) (Kd.R_far (p := ⟨gb272, 0, none⟩) (Kd.R_types HO243.out BK272.out (by decide)) (fun _ hk => hk.2) (.slice Ao49 t265.length co49)) (fun _ hk => hk.2) (.slice Ao51 t268.length co51)) (fun _ hk => ⟨hk.1.1, ⟨hk.1.2.1, ⟨hk.1.2.2.1, hk.1.2.2.2⟩⟩⟩))⟩
   have n1_ : Aside0 (Kd.R (Kd.int .i64) 33 ((w48.setCell ⟨gb272, 0, none⟩ (.slice Ao49 t265.length co49)).setCell ⟨gb272, 1, none⟩ (.slice Ao51 t268.length co51)) w.heap.size (fun k_ => some k_ ≠ (.slice Ao40 t257.length co40 : Value).ownBlock ∧ some k_ ≠ (.slice Ao51 t268.length co51 : Value).ownBlock) v249 y248) := ⟨zr_ (Kd.R_mono (Kd.R_far (p := ⟨gb272, 1, none⟩) (Kd.R_far (p := ⟨gb272, 0, none⟩) (Kd.R_types HO250.out BK272.out (by decide)) (fun _ hk => hk.2) (.slice Ao49 t265.length co49)) (fun _ hk => hk.2) (.slice Ao51 t268.length co51)) (fun _ hk => ⟨hk.1.1, hk.1.2⟩))⟩
   have n2_ : Aside0 (Kd.R (Kd.int .i64) 3 ((w48.setCell ⟨gb272, 0, none⟩ (.slice Ao49 t265.length co49)).setCell ⟨gb272, 1, none⟩ (.slice Ao51 t268.length co51)) w.heap.size (fun k_ => some k_ ≠ (.slice Ao25 t241.length co25 : Value).ownBlock ∧ some k_ ≠ (.slice Ao38 t254.length co38 : Value).ownBlock ∧ some k_ ≠ (v263 : Value).ownBlock ∧ some k_ ≠ (.slice Ao49 t265.length co49 : Value).ownBlock) v252 t251) := ⟨zr_ (Kd.R_mono (Kd.R_far (p := ⟨gb272, 1, none⟩) (Kd.R_far (p := ⟨gb272, 0, none⟩) (Kd.R_types HO253.out BK272.out (by decide)) (fun _ hk => hk.2) (.slice Ao49 t265.length co49)) (fun _ hk => hk.2) (.slice Ao51 t268.length co51)) (fun _ hk => ⟨hk.1.1, ⟨hk.1.2.1, ⟨hk.1.2.2.1, hk.1.2.2.2⟩⟩⟩))⟩
   have n3_ : Aside0 (Kd.R (Kd.int .i64) 3 ((w48.setCell ⟨gb272, 0, none⟩ (.slice Ao49 t265.length co49)).setCell ⟨gb272, 1, none⟩ (.slice Ao51 t268.length co51)) w.heap.size (fun k_ => some k_ ≠ (.slice Ao25 t241.length co25 : Value).ownBlock ∧ some k_ ≠ (v252 : Value).ownBlock ∧ some k_ ≠ (v263 : Value).ownBlock ∧ some k_ ≠ (.slice Ao49 t265.length co49 : Value).ownBlock) (.slice Ao38 t254.length co38) t254) := ⟨zr_ (Kd.R_mono (Kd.R_far (p := ⟨gb272, 1, none⟩) (Kd.R_far (p := ⟨gb272, 0, none⟩) (Kd.R_types HO256.out BK272.out (by decide)) (fun _ hk => hk.2) (.slice Ao49 t265.length co49)) (fun _ hk => hk.2) (.slice Ao51 t268.length co51)) (fun _ hk => ⟨hk.1.1, ⟨hk.1.2.1, ⟨hk.1.2.2.1, hk.1.2.2.2⟩⟩⟩))⟩
   have n4_ : Aside0 (Kd.R (Kd.int .i64) 33 ((w48.setCell ⟨gb272, 0, none⟩ (.slice Ao49 t265.length co49)).setCell ⟨gb272, 1, none⟩ (.slice Ao51 t268.length co51)) w.heap.size (fun k_ => some k_ ≠ (v249 : Value).ownBlock ∧ some k_ ≠ (.slice Ao51 t268.length co51 : Value).ownBlock) (.slice Ao40 t257.length co40) t257) := ⟨zr_ (Kd.R_mono (Kd.R_far (p := ⟨gb272, 1, none⟩) (Kd.R_far (p := ⟨gb272, 0, none⟩) (Kd.R_types HO259.out BK272.out (by decide)) (fun _ hk => hk.2) (.slice Ao49 t265.length co49)) (fun _ hk => hk.2) (.slice Ao51 t268.length co51)) (fun _ hk => ⟨hk.1.1, hk.1.2⟩))⟩
   have n5_ : Aside0 (Kd.R (Kd.int .i64) 3 ((w48.setCell ⟨gb272, 0, none⟩ (.slice Ao49 t265.length co49)).setCell ⟨gb272, 1, none⟩ (.slice Ao51 t268.length co51)) w.heap.size (fun k_ => some k_ ≠ (.slice Ao25 t241.length co25 : Value).ownBlock ∧ some k_ ≠ (v252 : Value).ownBlock ∧ some k_ ≠ (.slice Ao38 t254.length co38 : Value).ownBlock ∧ some k_ ≠ (.slice Ao49 t265.length co49 : Value).ownBlock) v263 t262) := ⟨zr_ (Kd.R_mono (Kd.R_far (p := ⟨gb272, 1, none⟩) (Kd.R_far (p := ⟨gb272, 0, none⟩) (Kd.R_types HO264.out BK272.out (by decide)) (fun _ hk => hk.2) (.slice Ao49 t265.length co49)) (fun _ hk => hk.2) (.slice Ao51 t268.length co51)) (fun _ hk => ⟨hk.1.1, ⟨hk.1.2.1, ⟨hk.1.2.2.1, hk.1.2.2.2⟩⟩⟩))⟩
   have n6_ : Aside0 (Kd.R (Kd.int .i64) 3 ((w48.setCell ⟨gb272, 0, none⟩ (.slice Ao49 t265.length co49)).setCell ⟨gb272, 1, none⟩ (.slice Ao51 t268.length co51)) w.heap.size (fun k_ => some k_ ≠ (.slice Ao25 t241.length co25 : Value).ownBlock ∧ some k_ ≠ (v252 : Value).ownBlock ∧ some k_ ≠ (.slice Ao38 t254.length co38 : Value).ownBlock ∧ some k_ ≠ (v263 : Value).ownBlock) (.slice Ao49 t265.length co49) t265) := ⟨zr_ (Kd.R_mono (Kd.R_far (p := ⟨gb272, 1, none⟩) (Kd.R_far (p := ⟨gb272, 0, none⟩) (Kd.R_types HO267.out BK272.out (by decide)) (fun _ hk => hk.2) (.slice Ao49 t265.length co49)) (fun _ hk => hk.2) (.slice Ao51 t268.length co51)) (fun _ hk => ⟨hk.1.1, ⟨hk.1.2.1, ⟨hk.1.2.2.1, hk.1.2.2.2⟩⟩⟩))⟩
   have n7_ : Aside0 (Kd.R (Kd.int .i64) 33 ((w48.setCell ⟨gb272, 0, none⟩ (.slice Ao49 t265.length co49)).setCell ⟨gb272, 1, none⟩ (.slice Ao51 t268.length co51)) w.heap.size (fun k_ => some k_ ≠ (v249 : Value).ownBlock ∧ some k_ ≠ (.slice Ao40 t257.length co40 : Value).ownBlock) (.slice Ao51 t268.length co51) t268) := ⟨zr_ (Kd.R_mono (Kd.R_far (p := ⟨gb272, 1, none⟩) (Kd.R_far (p := ⟨gb272, 0, none⟩) (Kd.R_types HO270.out BK272.out (by decide)) (fun _ hk => hk.2) (.slice Ao49 t265.length co49)) (fun _ hk => hk.2) (.slice Ao51 t268.length co51)) (fun _ hk => ⟨hk.1.1, hk.1.2⟩))⟩
   have n8_ : Aside0 (((w48.setCell ⟨gb272, 0, none⟩ (.slice Ao49 t265.length co49)).setCell ⟨gb272, 1, none⟩ (.slice Ao51 t268.length co51)).heap[gb244]? = some (.cells #[.slice Ao25 t241.length co25, .slice A2 l2.length c2] 25 (0, 0))) := ⟨zv1_ BK244 NB244_272⟩
   have n9_ : Aside0 (((w48.setCell ⟨gb272, 0, none⟩ (.slice Ao49 t265.length co49)).setCell ⟨gb272, 1, none⟩ (.slice Ao51 t268.length co51)).heap[gb261]? = some (.cells #[.slice Ao38 t254.length co38, .slice Ao40 t257.length co40] 25 (0, 0))) := ⟨zv1_ BK261 NB261_272⟩
   have n10_ : Aside0 (((w48.setCell ⟨gb272, 0, none⟩ (.slice Ao49 t265.length co49)).setCell ⟨gb272, 1, none⟩ (.slice Ao51 t268.length co51)).heap[gb272]? = some (.cells #[.slice Ao49 t265.length co49, .slice Ao51 t268.length co51] 25 (0, 0))) := ⟨zo2_ BK272⟩
   have n11_ : Aside0 (Below w.heap.size w ((w48.setCell ⟨gb272, 0, none⟩ (.slice Ao49 t265.length co49)).setCell ⟨gb272, 1, none⟩ (.slice Ao51 t268.length co51))) := ⟨zw3_ HB GE244 GE261 GE272⟩
   (try clear HO243)
   (try clear HO250)
   (try clear HO253)
   (try clear HO256)
   (try clear HO259)
   (try clear HO264)
   (try clear HO267)
   (try clear HO270)
   (try clear BK244)
   (try clear BK261)
   (try clear BK272)
   (try clear HB)
   generalize ((w48.setCell ⟨gb272, 0, none⟩ (.slice Ao49 t265.length co49)).setCell ⟨gb272, 1, none⟩ (.slice Ao51 t268.length co51)) = w53 at n0_ n1_ n2_ n3_ n4_ n5_ n6_ n7_ n8_ n9_ n10_ n11_ ⊢
   have HO243 := n0_
   have HO250 := n1_
   have HO253 := n2_
   have HO256 := n3_
   have HO259 := n4_
   have HO264 := n5_
   have HO267 := n6_
   have HO270 := n7_
   have BK244 := n8_
   have BK261 := n9_
   have BK272 := n10_
   have HB := n11_
   clear n0_ n1_ n2_ n3_ n4_ n5_ n6_ n7_ n8_ n9_ n10_ n11_
   replace HO243 := Aside0.mk (Kd.R_drew HO243.out)
   replace HO250 := Aside0.mk (Kd.R_drew HO250.out)
   replace HO253 := Aside0.mk (Kd.R_drew HO253.out)
   replace HO256 := Aside0.mk (Kd.R_drew HO256.out)
   replace HO259 := Aside0.mk (Kd.R_drew HO259.out)
   replace HO264 := Aside0.mk (Kd.R_drew HO264.out)
   replace HO267 := Aside0.mk (Kd.R_drew HO267.out)
   replace HO270 := Aside0.mk (Kd.R_drew HO270.out)
   replace BK244 := Aside0.mk (blk_drew BK244.out)
   replace BK261 := Aside0.mk (blk_drew BK261.out)
   replace BK272 := Aside0.mk (blk_drew BK272.out)
   replace HB := Aside0.mk (below_drew1 HB.out)
   have q55 : (1 : Int) ≤ ((t257.length : Int) : Int) := of_decide_eq_true (by first | (with_reducible assumption) | assumption)
   obtain ⟨i055, hi055, _, hsz55, _⟩ := info_parts info33
   have hroom55 : t257.length ≤ co40 := (Kd.R_reads' HO259.out).2.1
   have hC55 : Kd.F (Kd.int .i64) _ _ Ao40 t257.length t257 := (Kd.V_at (base := w.heap.size) (Kd.R_V (Kd.R_types (Kd.R_types (Kd.R_types (Kd.R_apart' (Kd.R_apart' (Kd.R_apart' (Kd.R_apart' (Kd.R_apart' (HO259.out) (Kd.R_typed HO243.out) (by decide)) (Kd.R_typed HO253.out) (by decide)) (Kd.R_typed HO256.out) (by decide)) (Kd.R_typed HO264.out) (by decide)) (Kd.R_typed HO267.out) (by decide)) BK244.out (by decide)) BK261.out (by decide)) BK272.out (by decide)))).2.2
   have hcut55 := cut_from (P := Try.prog) 23 33 .i64 Try.underlying23 hi055 1 hsz55 Ao40 t257.length co40 1 (by omega) q55
   have hr55 := Kd.F_cut (m := (1 : Int).toNat) (c := co40) hC55 (by omega) hroom55
   obtain ⟨A55, hA55⟩ : ∃ A1, A1 = (if co40 = (1 : Int).toNat then Ao40 else (Ao40 : Option Addr).map (·.add ((1 : Int).toNat * 1))) := ⟨_, rfl⟩
   obtain ⟨c55, hc55⟩ : ∃ c1, c1 = co40 - (1 : Int).toNat := ⟨_, rfl⟩
   have hy55 : y273.length = t257.length - (1 : Int).toNat := (by rw [Ny273.out, List.length_drop] <;> omega)
   rw [show (t257).drop (1 : Int).toNat = y273 from Ny273.out.symm] at hr55
   replace hr55 : Kd.F (Kd.int .i64) _ _ A55 y273.length y273 := (by rw [hA55]; exact hr55)
   rw [← hy55, ← hA55, ← hc55] at hcut55
   have HO277 := Aside0.mk (show Kd.V (Kd.int .i64) 33 _ w.heap.size _ (.slice A55 y273.length c55) y273 from Kd.V_mk (by rw [hy55, hc55]; exact Nat.sub_le_sub_right hroom55 _) hr55)
   have HC277 := Aside0.mk (show y273.length ≤ c55 from by rw [hy55, hc55]; exact Nat.sub_le_sub_right hroom55 _)
   clear hr55 hC55 hroom55 hi055 hsz55 hc55
   have KY55 := Aside0.mk hy55
   have KA55 := Aside0.mk hA55
   clear hy55 hA55
   replace q55 := eq_true q55
   refine start_ (n := 25) (S := fun w' => w'.cell? ⟨gb261, 0, none⟩ = some (.slice Ao38 t254.length co38) ∧ w'.cell? ⟨gb261, 1, none⟩ = some (.slice Ao40 t257.length co40) ∧ w'.cell? ⟨gb272, 0, none⟩ = some (.slice Ao49 t265.length co49) ∧ w'.cell? ⟨gb272, 1, none⟩ = some (.slice Ao51 t268.length co51)) (ds := []) #[false, false, false, false, false, false, false, false, false, false, false, false, false, false, false, false, false, false, false, false, false, false, false, false, false] (by kernel_rfl) rfl rfl ⟨(blk_cell BK261.out 0).trans rfl, (blk_cell BK261.out 1).trans rfl, (blk_cell BK272.out 0).trans rfl, (blk_cell BK272.out 1).trans rfl⟩ (fun hHeld => ?_); refine with_tabW carousellaw8_ConvShifts.tab8 carousellaw8_ConvShifts.bits8 (fun HT_ HW_ => ?_)
   generalize w53.drew = w54 at HO243 HO250 HO253 HO256 HO259 HO264 HO267 HO270 BK244 BK261 BK272 HB HO277 hHeld ⊢
   refine yp_ ?_ 0 48
   refine yp_ ?_ 1 49
   refine yp_ ?_ 2 50
   refine yp_ ?_ 3 51
   refine yp_ ?_ 4 52
   refine yp_ ?_ 5 53
   refine yp_ ?_ 6 54
   refine yp_ ?_ 7 55
   refine yp_ ?_ 10 58
   refine yt4_ ?_ 8 56
   refine yp_ ?_ 9 57
   refine yt4_ ?_ 11 59
   refine yp_ ?_ 12 60
   refine yp_ ?_ 13 61
   refine yp_ ?_ 14 62
   refine yp_ ?_ 15 63
   refine yp_ ?_ 16 64
   refine yp_ ?_ 17 65
   refine yt4_ ?_ 18 66
   refine yp_ ?_ 19 67
   refine yt4_ ?_ 21 69
   refine yo_ 20 (some 68) (fun K hK => ?_)
   refine yg_ Try.func17 #[.int .i64 1, .slice A55 y273.length c55] ?_
   with_reducible refine (carousellaw8_rows.calls 1 _ _ y273 t278 _ ?side1 ?side2 A21.out).mono ?_
   (case side1 => repeat (first | exact (Kd.V_reads' HO277.out).2.2 | (with_reducible refine Kd.C_alloc ?_ _) | (with_reducible refine Kd.C_drewN ?_ _) | (with_reducible refine Kd.C_drew ?_)))
   (case side2 => exact (Kd.V_reads' HO277.out).2.1)
   rintro e w56 ⟨v279, rfl, ho0, hb⟩
   refine ⟨_, rfl, ?_⟩
   replace HO250 := zy_ HO250 hb
   replace HO259 := zy_ HO259 hb
   replace HO270 := zy_ HO270 hb
   replace HO277 := Aside0.mk (Kd.V_elder' (by (with_reducible repeat (first | apply Kd.V_alloc | apply Kd.V_drewN | apply Kd.V_drew)); exact HO277.out) (Kd.R_base ho0) hb)
   have HO280 := Aside0.mk (Kd.R_lower (Kd.R_new' (Kd.R_new' (Kd.R_new' (Kd.R_new' (Kd.R_new' ho0 (Kd.R_lt (zr_ HO243.out))) (Kd.R_lt (zr_ HO253.out))) (Kd.R_lt (zr_ HO256.out))) (Kd.R_lt (zr_ HO264.out))) (Kd.R_lt (zr_ HO267.out))) (below_size (zw3_ HB GE244 GE261 GE272)))
   replace HO243 := ze_ HO243 ho0 hb
   replace HO253 := ze_ HO253 ho0 hb
   replace HO256 := ze_ HO256 ho0 hb
   replace HO264 := ze_ HO264 ho0 hb
   replace HO267 := ze_ HO267 ho0 hb
   replace BK244 := za_ BK244 hb
   replace BK261 := za_ BK261 hb
   replace BK272 := za_ BK272 hb
   replace HB := Aside0.mk (below_step (zw3_ HB GE244 GE261 GE272) hb)
   (try clear hb)
   (try clear hb2)
   (try clear hk)
   (try clear hi)
   (try clear ho0)
   obtain ⟨Ao57, co57, eo57⟩ := Kd.R_slice HO280.out
   (first | subst eo57 | (injection eo57 with f1_ f2_ f3_; have f4_ := f1_.symm; have f5_ := f3_.symm; clear f1_ f2_ f3_; subst f4_; subst f5_))
   refine hK.out _ _ ⟨zx_ BK261 0, zx_ BK261 1, zx_ BK272 0, zx_ BK272 1⟩ (fun hHeld => ?_)
   clear hK K
   refine zq_ (some 68) (h := ?_)
   refine yo_ 22 (some 70) (fun K hK => ?_)
   refine yg_ Try.func15 #[.agg #[.slice Ao57 t278.length co57, .slice A55 y273.length c55], .agg #[.slice Ao49 t265.length co49, .slice Ao51 t268.length co51]] ?_
   with_reducible refine (carouselref5_Alike.calls kj5 _ _ t278 _ _ y273 _ _ t265 _ _ t268 t281 _ ?side1 ?side2 ?side3 ?side4 ?side5 ?side6 ?side7 ?side8 A22.out).mono ?_
   (case side1 => exact zk_ ((Kd.R_reads' HO280.out).2.2))
   (case side2 => exact (Kd.R_reads' HO280.out).2.1)
   (case side3 => repeat (first | exact (Kd.V_reads' HO277.out).2.2 | (with_reducible refine Kd.C_alloc ?_ _) | (with_reducible refine Kd.C_drewN ?_ _) | (with_reducible refine Kd.C_drew ?_)))
   (case side4 => exact (Kd.V_reads' HO277.out).2.1)
   (case side5 => exact zk_ ((Kd.R_reads' HO267.out).2.2))
   (case side6 => exact (Kd.R_reads' HO267.out).2.1)
   (case side7 => exact zk_ ((Kd.R_reads' HO270.out).2.2))
   (case side8 => exact (Kd.R_reads' HO270.out).2.1)
   rintro e w58 ⟨rfl, hb⟩
   refine ⟨_, rfl, ?_⟩
   replace HO243 := zy_ HO243 hb
   replace HO250 := zy_ HO250 hb
   replace HO253 := zy_ HO253 hb
   replace HO256 := zy_ HO256 hb
   replace HO259 := zy_ HO259 hb
   replace HO264 := zy_ HO264 hb
   replace HO267 := zy_ HO267 hb
   replace HO270 := zy_ HO270 hb
   replace HO277 := Aside0.mk (Kd.V_below (by (with_reducible repeat (first | apply Kd.V_alloc | apply Kd.V_drewN | apply Kd.V_drew)); exact HO277.out) hb)
   replace HO280 := zy_ HO280 hb
   replace BK244 := za_ BK244 hb
   replace BK261 := za_ BK261 hb
   replace BK272 := za_ BK272 hb
   replace HB := Aside0.mk (below_step (zw3_ HB GE244 GE261 GE272) hb)
   (try clear hb)
   (try clear hb2)
   (try clear hk)
   (try clear hi)
   refine hK.out _ _ ⟨zx_ BK261 0, zx_ BK261 1, zx_ BK272 0, zx_ BK272 1⟩ (fun hHeld => ?_)
   clear hK K
   refine zq_ (some 70) (h := ?_)
   refine yp_ ?_ 23 71
   refine yp_ ?_ 24 6
   refine done_ (done_of HT_.out (by kernel_rfl)) ?_
   try go_wp2
   go_ret
   exact ⟨z0_, zw3_ HB GE244 GE261 GE272⟩

/-- THE ONE PURE STATEMENT of carousellaw8_ConvShifts: yours. -/
def carousellaw8_ConvShifts.Pure : Prop := ∀ (a0 : Int) (l1 : List Int) (l2 : List Int), (Lit.int .i64 a0).wf = true → l1.length ≤ maxLen → l1.length * 8 ≤ 140737488351232 → (∀ x ∈ l1, (Lit.int .i64 x).wf = true) → l2.length ≤ maxLen → l2.length * 8 ≤ 140737488351232 → (∀ x ∈ l2, (Lit.int .i64 x).wf = true) → ∃ k, carousellaw8_ConvShifts.f k a0 l1 l2 = some true
theorem carousellaw8_ConvShifts.walk (P : carousellaw8_ConvShifts.Pure) (a0 : Int) (a1 : Option Addr) (len1 cap1 : Nat) (z1 : List Int) (a2 : Option Addr) (len2 cap2 : Nat) (z2 : List Int) (w : World) (w0 : (Lit.int .i64 a0).wf = true) (w1 : (a1 = none ∧ len1 = 0 ∧ cap1 = 0 ∧ z1 = []) ∨ ∃ x, a1 = some x ∧ len1 ≤ cap1 ∧ cap1 ≤ maxLen ∧ z1.length = cap1 ∧ (∀ i, i < z1.length → w.cell? (x.add i) = some (.int .i64 (z1.getD i 0))) ∧ ∀ n ∈ z1, (Lit.int .i64 n).wf = true) (y1 : len1 * 8 ≤ 140737488351232) (w2 : (a2 = none ∧ len2 = 0 ∧ cap2 = 0 ∧ z2 = []) ∨ ∃ x, a2 = some x ∧ len2 ≤ cap2 ∧ cap2 ≤ maxLen ∧ z2.length = cap2 ∧ (∀ i, i < z2.length → w.cell? (x.add i) = some (.int .i64 (z2.getD i 0))) ∧ ∀ n ∈ z2, (Lit.int .i64 n).wf = true) (y2 : len2 * 8 ≤ 140737488351232) :
  Calls Try.prog 4 #[.int .i64 a0, .slice a1 len1 cap1, .slice a2 len2 cap2] w fun e w' => e = .returned (.bool true) ∧ Below w.heap.size w w' := by
 obtain ⟨l1, rfl, hr1, hm1, hw1, hc1⟩ := ReadsInt.ofRowC w1
 obtain ⟨l2, rfl, hr2, hm2, hw2, hc2⟩ := ReadsInt.ofRowC w2
 obtain ⟨k, h⟩ := P a0 l1 l2 w0 hm1 y1 hw1 hm2 y2 hw2
 refine (carousellaw8_ConvShifts.calls k a0 _ _ l1 _ _ l2 true w (Kd.C_of_reads (d := (0 : Int)) (h1 := fun _ => rfl) hr1) hc1 (Kd.C_of_reads (d := (0 : Int)) (h1 := fun _ => rfl) hr2) hc2 h).mono ?_
 rintro e w' ⟨rfl, hd⟩
 exact ⟨rfl, hd⟩

end Go.Proofs.Ytcipfhlcgnomaaa.PConvShifts
