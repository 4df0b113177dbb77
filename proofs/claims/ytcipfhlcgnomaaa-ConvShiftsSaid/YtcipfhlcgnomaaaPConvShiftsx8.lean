/- The functions that the law ConvShifts reaches, as Lean functions, and that each call of the Go function does what its Lean function says, wherever that one answers. Written by a program of mine over the print of the kit; Lean checks it. -/
import Derived.Test.YtcipfhlcgnomaaaPConvShiftsx0
import Derived.Test.YtcipfhlcgnomaaaPConvShiftsx5
import Derived.Test.YtcipfhlcgnomaaaPConvShiftsx6
import Derived.Test.YtcipfhlcgnomaaaPConvShiftsx7
namespace Go.Proofs.Ytcipfhlcgnomaaa.PConvShifts
open Go.RowKit Go.Proofs.YtcipfhlcgnomaaaW.PrintWords Go.Proofs.YtcipfhlcgnomaaaW.PrintLast Go.Proofs.YtcipfhlcgnomaaaW.PrintMore
attribute [local go_sem] max2_int min2_int max_two min_two max_three min_three max_four min_four   -- for this text's walks alone
set_option linter.unusedVariables false
set_option linter.unusedSimpArgs false

/-! ### carousellaw8_ConvShifts: function 4 -/
def carousellaw8_ConvShifts.j0 : Nat → Int → List Int → List Int → Bool → Option (Bool)
 | 0, _, _, _, _ => none
 | k + 1, x0, x1, x2, x28 => if x28 = true then (some true) else ((carousellaw8_windows.f 1 1 x2).bind fun bt258 => ((some (([x0] : List Int) : List Int)).bind fun y265 => (if y265.length + x1.length < 17592186044416 then ((carousellaw8_rows.f 1 (y265 ++ x1)).bind fun bt271 => ((conv_Row.f k bt271.1 bt271.2 bt258.1 bt258.2 1).bind fun bt277 => ((carousellaw8_rows.f 1 x1).bind fun bt285 => ((conv_Row.f k bt285.1 bt285.2 bt258.1 bt258.2 1).bind fun bt291 => (if bt277.2.2 = 0 then (if bt291.2.2 = 0 then (if (bt277.2.1.length : Int) = (wrap64 ((bt291.2.1.length : Int) + 1)) then (if 1 ≤ (bt277.2.1.length : Int) then ((carousellaw8_rows.f 1 (bt277.2.1.drop 1)).bind fun bt304 => ((carouselref5_Alike.f k bt304.1 bt304.2 bt291.1 bt291.2.1).bind fun t310 => (some t310))) else (none)) else (none)) else (none)) else (none)))))) else (none))))
def carousellaw8_ConvShifts.f (k : Nat) (a0 : Int) (l1 : List Int) (l2 : List Int) : Option (Bool) := (carousellaw8_awake.f k).bind fun t257 => (if t257 = true then (if (l2.length : Int) < 1 then (carousellaw8_ConvShifts.j0 k a0 l1 l2 true) else (if (l1.length : Int) < (l2.length : Int) then (carousellaw8_ConvShifts.j0 k a0 l1 l2 true) else (carousellaw8_ConvShifts.j0 k a0 l1 l2 (decide ((l1.length : Int) > 60))))) else (none))
theorem carousellaw8_ConvShifts.mono_l : ∀ k, (∀ y0 y1 y2 y3, LeO (carousellaw8_ConvShifts.j0 k y0 y1 y2 y3) (carousellaw8_ConvShifts.j0 (k + 1) y0 y1 y2 y3))
 | 0 => fun _ _ _ _ r h => by simp [carousellaw8_ConvShifts.j0] at h
 | k + 1 => by
  have ih0 := carousellaw8_ConvShifts.mono_l k
  ·intro y0 y1 y2 y3
   unfold carousellaw8_ConvShifts.j0
   repeat' first
   | (with_reducible exact ih0 _ _ _ _)
   | (with_reducible exact carouselref5_Alike.mono _ _ _ _ _)
   | (with_reducible exact conv_Row.mono _ _ _ _ _ _)
   | (with_reducible exact LeO.refl _)
   | (with_reducible exact LeO.none _)
   | (with_reducible refine LeO.ite ?_ ?_)
   | (with_reducible refine LeO.bind ?_ (fun _ => ?_))
   | exact ih0 _ _ _ _
   | exact carouselref5_Alike.mono _ _ _ _ _
   | exact conv_Row.mono _ _ _ _ _ _
   | exact LeO.none _
   | refine LeO.ite ?_ ?_
   | refine LeO.bind ?_ (fun _ => ?_)
theorem carousellaw8_ConvShifts.mono : ∀ a0 a1 a2 k, LeO (carousellaw8_ConvShifts.f k a0 a1 a2) (carousellaw8_ConvShifts.f (k + 1) a0 a1 a2) := by
 intro a0 a1 a2 k
 have ih0 := carousellaw8_ConvShifts.mono_l k
 unfold carousellaw8_ConvShifts.f
 repeat' first
   | (with_reducible exact ih0 _ _ _ _)
   | (with_reducible exact carousellaw8_awake.mono _)
   | (with_reducible exact LeO.refl _)
   | (with_reducible exact LeO.none _)
   | (with_reducible refine LeO.ite ?_ ?_)
   | (with_reducible refine LeO.bind ?_ (fun _ => ?_))
   | exact ih0 _ _ _ _
   | exact carousellaw8_awake.mono _
   | exact LeO.none _
   | refine LeO.ite ?_ ?_
   | refine LeO.bind ?_ (fun _ => ?_)
def carousellaw8_ConvShifts.T6 : Bool × List (List Nat × List Nat) := (true, [([], []), ([0], [0]), ([], []), ([1, 2], [1, 2]), ([3, 3], [3]), ([], []), ([4, 5, 4], [4, 5]), ([6], [6]), ([7], [7]), ([7], [7]), ([], []), ([10, 8, 6, 0, 1, 2, 3, 4, 5, 6, 7, 8, 10], [8, 10]), ([9, 11, 0, 1, 2, 3, 4, 5, 6, 7, 8, 9, 10, 11], [9])])
def carousellaw8_ConvShifts.B6 : List Nat := [0, 1, 0, 7, 15, 0, 63, 127, 255, 255, 0, 1535, 4095]
theorem carousellaw8_ConvShifts.tab6 : rtab .any (opsOf Try.f4 6) = carousellaw8_ConvShifts.T6 := by kernel_rfl
theorem carousellaw8_ConvShifts.bits6 : waitsOk carousellaw8_ConvShifts.T6.2 carousellaw8_ConvShifts.B6 = true := by kernel_rfl
def carousellaw8_ConvShifts.T7 : Bool × List (List Nat × List Nat) := (true, [([], []), ([0], [0]), ([], []), ([1, 2, 1], [1, 2]), ([3], [3]), ([4], [4]), ([4], [4]), ([], []), ([7, 5, 3, 0, 1, 2, 3, 4, 5, 7], [5, 7]), ([6, 8, 0, 1, 2, 3, 4, 5, 6, 7, 8], [6])])
def carousellaw8_ConvShifts.B7 : List Nat := [0, 1, 0, 7, 15, 31, 31, 0, 191, 511]
theorem carousellaw8_ConvShifts.tab7 : rtab .any (opsOf Try.f4 7) = carousellaw8_ConvShifts.T7 := by kernel_rfl
theorem carousellaw8_ConvShifts.bits7 : waitsOk carousellaw8_ConvShifts.T7.2 carousellaw8_ConvShifts.B7 = true := by kernel_rfl
def carousellaw8_ConvShifts.T8 : Bool × List (List Nat × List Nat) := (true, [([], []), ([0], [0]), ([1], [1]), ([2], [2]), ([3, 2], [2, 3]), ([2, 4], [2, 4]), ([5, 2], [5]), ([6], [6]), ([7, 6], [6, 7]), ([8, 6], [6, 8]), ([6], [6]), ([10, 6], [6, 10]), ([11, 6], [6, 11]), ([12, 6], [6, 12]), ([9, 13, 6], [6, 9, 13]), ([6, 14], [6, 14]), ([15, 6], [15]), ([16], [16]), ([17, 16], [16, 17]), ([18, 16], [16, 18]), ([19, 16, 16], [16, 19]), ([16], [16]), ([20, 21, 20, 16], [16, 20, 21]), ([16, 22], [16, 22]), ([23, 22, 0, 1, 2, 3, 4, 5, 6, 7, 8, 9, 10, 11, 12, 13, 14, 15, 16, 17, 18, 19, 20, 21, 22, 23], [23])])
def carousellaw8_ConvShifts.B8 : List Nat := [0, 1, 3, 7, 15, 31, 63, 127, 255, 511, 127, 1151, 3199, 7295, 16383, 32767, 65535, 131071, 262143, 524287, 1048575, 131071, 4194303, 8388607, 16777215]
theorem carousellaw8_ConvShifts.tab8 : rtab .any (opsOf Try.f4 8) = carousellaw8_ConvShifts.T8 := by kernel_rfl
theorem carousellaw8_ConvShifts.bits8 : waitsOk carousellaw8_ConvShifts.T8.2 carousellaw8_ConvShifts.B8 = true := by kernel_rfl
set_option maxHeartbeats 8000000 in
set_option maxRecDepth 100000 in
theorem carousellaw8_ConvShifts.calls (k : Nat) (a0 : Int) (A1 : Option Addr) (c1 : Nat) (l1 : List Int) (A2 : Option Addr) (c2 : Nat) (l2 : List Int) (r : Bool) (w : World) (hr1 : Kd.C (Kd.int .i64) w A1 l1.length l1) (hc1 : l1.length ≤ c1) (hr2 : Kd.C (Kd.int .i64) w A2 l2.length l2) (hc2 : l2.length ≤ c2) (h : carousellaw8_ConvShifts.f k a0 l1 l2 = some r) :
  Calls Try.prog 4 #[.int .i64 a0, .slice A1 l1.length c1, .slice A2 l2.length c2] w fun e w' => e = .returned (.bool r) ∧ Below w.heap.size w w' := by
 have hu25 := Try.underlying25
 have HR1 := Aside0.mk hr1
 have HC1 := Aside0.mk hc1
 clear hr1 hc1
 have HR2 := Aside0.mk hr2
 have HC2 := Aside0.mk hc2
 clear hr2 hc2
 have HB := Aside0.mk (Below.refl w.heap.size w)
 have H : ((carousellaw8_awake.f k).bind fun t257 => (if t257 = true then (if (l2.length : Int) < 1 then (carousellaw8_ConvShifts.j0 k a0 l1 l2 true) else (if (l1.length : Int) < (l2.length : Int) then (carousellaw8_ConvShifts.j0 k a0 l1 l2 true) else (carousellaw8_ConvShifts.j0 k a0 l1 l2 (decide ((l1.length : Int) > 60))))) else (none))) = some r := h
 clear h
 replace H := Option.bind_eq_some_iff.mp H
 obtain ⟨t257, A40, H⟩ := H
 (try dsimp only at H)
 have A4 := Aside0.mk A40
 clear A40
 by_cases c5 : t257 = true
 ·subst c5
  have H1 := H
  rw [if_pos rfl] at H1
  clear H
  have H := H1
  clear H1
  have HC6 := Aside0.mk H
  clear H
  go_enter Try.func4, Try.ntmps4
  go_upto_region 3 with (first | ((with_reducible refine gate_callee (f := 11) rfl ?_); refine zg_ (some 12) Try.func11 #[] (h := ?_); (with_reducible refine (carousellaw8_awake.calls k  true _ A4.out).mono ?_); rintro e w7 ⟨rfl, hb⟩; refine ⟨_, rfl, ?_⟩; replace HB := Aside0.mk (below_step (zw0_ HB) hb); (try clear hb)))
  (try simp only [Act.put, List.setIfInBounds_toArray, List.set_cons_zero, List.set_cons_succ])
  go_cut [28] (fun v28 wc => ∃ (kq : Nat) (x28_5 : Bool), v28 = .bool x28_5 ∧ Aside0 (carousellaw8_ConvShifts.j0 kq a0 l1 l2 x28_5 = some r) ∧ Aside0 (kq ≤ k) ∧ Aside0 (Below w.heap.size w wc))
  case first =>
   have H := HC6.out
   clear HC6
   by_cases c8 : (l2.length : Int) < 1
   ·rw [if_pos c8] at H
    have c8b0 : decide ((l2.length : Int) < 1) = true := decide_eq_true c8
    have c8b1 : decide (l2.length < 1) = true := decide_eq_true (by omega)
    clear c8
    (first | rw [c8b0] | (simp only [i64_w, i32_w]; rw [c8b0]) | rw [c8b1] | skip)
    have H' := Aside0.mk H
    clear H
    go_wp2
    go_meet
    case rel => exact ⟨_, (true), (by first | rfl | (simp; done) | (simp [*]; done)), H', ⟨by first | omega | exact Nat.le_refl _⟩, ⟨zw0_ HB⟩⟩
   ·rw [if_neg c8] at H
    have c8b0 : decide ((l2.length : Int) < 1) = false := decide_eq_false c8
    have c8b1 : decide (l2.length < 1) = false := decide_eq_false (by omega)
    clear c8
    (first | rw [c8b0] | (simp only [i64_w, i32_w]; rw [c8b0]) | rw [c8b1] | skip)
    by_cases c9 : (l1.length : Int) < (l2.length : Int)
    ·rw [if_pos c9] at H
     have c9b0 : decide ((l1.length : Int) < (l2.length : Int)) = true := decide_eq_true c9
     have c9b1 : decide (l1.length < l2.length) = true := decide_eq_true (Int.ofNat_lt.mp c9)
     clear c9
     have H' := Aside0.mk H
     clear H
     go_wp2
     go_meet
     case rel => exact ⟨_, (true), (by first | rfl | (simp; done) | (simp [*]; done)), H', ⟨by first | omega | exact Nat.le_refl _⟩, ⟨zw0_ HB⟩⟩
    ·rw [if_neg c9] at H
     have c9b0 : decide ((l1.length : Int) < (l2.length : Int)) = false := decide_eq_false c9
     have c9b1 : decide (l1.length < l2.length) = false := decide_eq_false (fun h => c9 (Int.ofNat_lt.mpr h))
     clear c9
     have H' := Aside0.mk H
     clear H
     go_wp2
     go_meet
     case rel => exact ⟨_, (decide ((l1.length : Int) > 60)), (by first | rfl | (simp; done) | (simp [*]; done)), H', ⟨by first | omega | exact Nat.le_refl _⟩, ⟨zw0_ HB⟩⟩
  case rest =>
   clear HC6
   try clear c1
   try clear c2
   try clear p2
   try clear c4
   try clear c5
   try clear c8
   try clear c8b0
   try clear c8b1
   try clear c9
   try clear c9b0
   try clear c9b1
   obtain ⟨kq, x28_5, rfl, HA, HJ5, HB⟩ := hcut
   cases kq with
   | zero => exact absurd HA.out (by simp [carousellaw8_ConvShifts.j0])
   | succ kj5 =>
    have H := HA.out
    clear HA
    simp only [carousellaw8_ConvShifts.j0] at H
    by_cases c10 : x28_5 = true
    ·subst c10
     have H1 : (some true) = some r := by rw [if_pos rfl] at H; exact H
     clear H
     have H := H1
     clear H1
     obtain rfl := Option.some.inj H
     go_wp2
     go_ret
     exact ⟨by first | rfl | (simp [errW_none, errW_some] <;> rfl) | (simp [*, errW_none, errW_some] <;> rfl), zw0_ HB⟩
    ·replace c10 := Bool.eq_false_iff.mpr c10
     subst c10
     have H1 := H
     rw [if_neg (show ¬ (false = true) by decide)] at H1
     clear H
     have H := H1
     clear H1
     replace H := Option.bind_eq_some_iff.mp H
     obtain ⟨⟨t258, t261⟩, A110, H⟩ := H
     (try dsimp only at H)
     have A11 := Aside0.mk A110
     clear A110
     obtain ⟨y265, hy265⟩ : ∃ y_ : List Int, y_ = (([a0] : List Int)) := ⟨_, rfl⟩
     replace H : (if y265.length + l1.length < 17592186044416 then ((carousellaw8_rows.f 1 (y265 ++ l1)).bind fun bt271 => ((conv_Row.f kj5 bt271.1 bt271.2 t258 t261 1).bind fun bt277 => ((carousellaw8_rows.f 1 l1).bind fun bt285 => ((conv_Row.f kj5 bt285.1 bt285.2 t258 t261 1).bind fun bt291 => (if bt277.2.2 = 0 then (if bt291.2.2 = 0 then (if (bt277.2.1.length : Int) = (wrap64 ((bt291.2.1.length : Int) + 1)) then (if 1 ≤ (bt277.2.1.length : Int) then ((carousellaw8_rows.f 1 (bt277.2.1.drop 1)).bind fun bt304 => ((carouselref5_Alike.f kj5 bt304.1 bt304.2 bt291.1 bt291.2.1).bind fun t310 => (some t310))) else (none)) else (none)) else (none)) else (none)))))) else (none)) = some r := by first | (rw [hy265]; with_reducible exact H) | (have H2_ := (Option.bind_some _ _).symm.trans H; rw [hy265]; with_reducible exact H2_) | (have H2_ := (Option.bind_some _ _).symm.trans H; with_reducible exact H2_) | with_reducible exact H | (rw [hy265]; exact H) | exact H
     have Ny265 := Aside0.mk hy265
     clear hy265
     by_cases c12 : y265.length + l1.length < 17592186044416
     ·rw [if_pos c12] at H
      have LMc12 := Aside0.mk c12
      clear c12
      obtain ⟨y268, hy268⟩ : ∃ y_ : List Int, y_ = (y265 ++ l1) := ⟨_, rfl⟩
      replace H : ((carousellaw8_rows.f 1 y268).bind fun bt271 => ((conv_Row.f kj5 bt271.1 bt271.2 t258 t261 1).bind fun bt277 => ((carousellaw8_rows.f 1 l1).bind fun bt285 => ((conv_Row.f kj5 bt285.1 bt285.2 t258 t261 1).bind fun bt291 => (if bt277.2.2 = 0 then (if bt291.2.2 = 0 then (if (bt277.2.1.length : Int) = (wrap64 ((bt291.2.1.length : Int) + 1)) then (if 1 ≤ (bt277.2.1.length : Int) then ((carousellaw8_rows.f 1 (bt277.2.1.drop 1)).bind fun bt304 => ((carouselref5_Alike.f kj5 bt304.1 bt304.2 bt291.1 bt291.2.1).bind fun t310 => (some t310))) else (none)) else (none)) else (none)) else (none)))))) = some r := by first | (rw [hy268]; with_reducible exact H) | (have H2_ := (Option.bind_some _ _).symm.trans H; rw [hy268]; with_reducible exact H2_) | (have H2_ := (Option.bind_some _ _).symm.trans H; with_reducible exact H2_) | with_reducible exact H | (rw [hy268]; exact H) | exact H
      have Ny268 := Aside0.mk hy268
      clear hy268
      replace H := Option.bind_eq_some_iff.mp H
      obtain ⟨⟨t271, t274⟩, A130, H⟩ := H
      (try dsimp only at H)
      have A13 := Aside0.mk A130
      clear A130
      replace H := Option.bind_eq_some_iff.mp H
      obtain ⟨⟨t277, t280, t283⟩, A140, H⟩ := H
      (try dsimp only at H)
      have A14 := Aside0.mk A140
      clear A140
      replace H := Option.bind_eq_some_iff.mp H
      obtain ⟨⟨t285, t288⟩, A150, H⟩ := H
      (try dsimp only at H)
      have A15 := Aside0.mk A150
      clear A150
      replace H := Option.bind_eq_some_iff.mp H
      obtain ⟨⟨t291, t294, t297⟩, A160, H⟩ := H
      (try dsimp only at H)
      have A16 := Aside0.mk A160
      clear A160
      by_cases c17 : t283 = 0
      ·rw [if_pos c17] at H
       have c17b0 : (t283 == 0) = true := beq_iff_eq.mpr c17
       have c17b1 : (t283 != 0) = false := bne_eq_false_iff_eq.mpr c17
       clear c17
       by_cases c18 : t297 = 0
       ·rw [if_pos c18] at H
        have c18b0 : (t297 == 0) = true := beq_iff_eq.mpr c18
        have c18b1 : (t297 != 0) = false := bne_eq_false_iff_eq.mpr c18
        clear c18
        by_cases c19 : (t280.length : Int) = (wrap64 ((t294.length : Int) + 1))
        ·rw [if_pos c19] at H
         have c19b0 : ((t280.length : Int) == (wrap64 ((t294.length : Int) + 1))) = true := beq_iff_eq.mpr c19
         have c19b1 : ((t280.length : Int) != (wrap64 ((t294.length : Int) + 1))) = false := bne_eq_false_iff_eq.mpr c19
         clear c19
         by_cases c20 : 1 ≤ (t280.length : Int)
         ·rw [if_pos c20] at H
          have c20b0 := eq_true c20
          have c20b1 : decide (1 ≤ (t280.length : Int)) = true := decide_eq_true c20
          clear c20
          obtain ⟨y299, hy299⟩ : ∃ y_ : List Int, y_ = (t280.drop 1) := ⟨_, rfl⟩
          replace H : ((carousellaw8_rows.f 1 y299).bind fun bt304 => ((carouselref5_Alike.f kj5 bt304.1 bt304.2 t291 t294).bind fun t310 => (some t310))) = some r := by first | (rw [hy299]; with_reducible exact H) | (have H2_ := (Option.bind_some _ _).symm.trans H; rw [hy299]; with_reducible exact H2_) | (have H2_ := (Option.bind_some _ _).symm.trans H; with_reducible exact H2_) | with_reducible exact H | (rw [hy299]; exact H) | exact H
          have Ny299 := Aside0.mk hy299
          clear hy299
          replace H := Option.bind_eq_some_iff.mp H
          obtain ⟨⟨t304, t307⟩, A210, H⟩ := H
          replace H : ((carouselref5_Alike.f kj5 t304 t307 t291 t294).bind fun t310 => (some t310)) = some r := H
          have A21 := Aside0.mk A210
          clear A210
          replace H := Option.bind_eq_some_iff.mp H
          obtain ⟨t310, A220, H⟩ := H
          replace H : (some t310) = some r := H
          have A22 := Aside0.mk A220
          clear A220
          obtain rfl := Option.some.inj H
          try go_wp2_with (first | ((with_reducible refine gate_callee (f := 16) rfl ?_); refine zg_ (some 30) Try.func16 #[.int .i64 1, .int .i64 1, .slice A2 l2.length c2] (h := ?_); (with_reducible refine (carousellaw8_windows.calls 1 1 (fun k_ => k_ < w.heap.size) _ _ l2 t258 t261 _ ?side1 A11.out).mono ?_); (case side1 => exact Kd.V_mk HC2.out (Kd.F_below (Kd.C_F (Kd.heap_int .i64) HR2.out) (zw0_ HB))); rintro e w23 ⟨v259, v262, rfl, ho0, ho1, hb⟩; refine ⟨_, rfl, ?_⟩; have HO260 := Aside0.mk (Kd.R_lower (Kd.R_mono (ok' := fun k_ => True) ho0 (fun _ hk_ => trivial)) (below_size (zw0_ HB))); have HO263 := Aside0.mk (Kd.V_lower (Kd.V_mono (ok' := fun k_ => some k_ ≠ (v259 : Value).ownBlock) ho1 (fun k_ hk_ => hk_.2)) (below_size (zw0_ HB))); replace HB := Aside0.mk (below_step (zw0_ HB) hb); (try clear hb); (try clear ho0); (try clear ho1)) | ((with_reducible refine gate_dst (N := 7) rfl ?_); (try (refine gate_guard (by rfl) ?_; dsimp only)); refine box_event ?hg (N := 7) ?hd (cs := #[.slice none 0 0, .slice none 0 0]) (t := 25) ?hr ?_; (case hd => rfl); (case hg => rfl); (case hr => first | (go_simp; done) | (go_simp; rfl)); intro gb264 hg w24 hbox hb; replace HO260 := Aside0.mk (Kd.R_below (zr_ HO260.out) hb); replace HO263 := Aside0.mk (Kd.V_below (Kd.V_elderB (by (with_reducible repeat (first | apply Kd.V_alloc | apply Kd.V_drewN | apply Kd.V_drew)); exact HO263.out) gb264 (Nat.le_of_eq hg.symm)) hb); have BK264 := Aside0.mk (hbox); have GW264 := Aside0.mk (zs_ hg (zw0_ HB)); have GE264 := Aside0.mk (zs_ hg (zw0_ HB)); replace HB := Aside0.mk (below_step (zw0_ HB) hb); clear hb hbox hg; obtain ⟨Ao25, co25, eo25⟩ := Kd.R_slice HO260.out; subst eo25; have hcz26_0 := zx_ (v := .slice none 0 0) BK264 0; have hcz26_1 := zx_ (v := .slice none 0 0) BK264 1; have hfz26_0 := blk_frozen BK264.out 0; have hfz26_1 := blk_frozen BK264.out 1; obtain ⟨Ao27, co27, eo27⟩ := Kd.V_slice HO263.out; subst eo27))
          have n0_ : Aside0 (Kd.R (Kd.int .i64) 3 ((w24.setCell ⟨gb264, 0, none⟩ (.slice Ao25 t258.length co25)).setCell ⟨gb264, 1, none⟩ (.slice Ao27 t261.length co27)) w.heap.size (fun _ => True) (.slice Ao25 t258.length co25) t258) := ⟨zr_ (Kd.R_mono (Kd.R_far (p := ⟨gb264, 1, none⟩) (Kd.R_far (p := ⟨gb264, 0, none⟩) (Kd.R_types HO260.out BK264.out (by decide)) (fun _ hk => hk.2) (.slice Ao25 t258.length co25)) (fun _ hk => hk.2) (.slice Ao27 t261.length co27)) (fun _ hk => trivial))⟩
          have n1_ : Aside0 (Kd.V (Kd.int .i64) 33 ((w24.setCell ⟨gb264, 0, none⟩ (.slice Ao25 t258.length co25)).setCell ⟨gb264, 1, none⟩ (.slice Ao27 t261.length co27)) w.heap.size (fun k_ => some k_ ≠ (.slice Ao25 t258.length co25 : Value).ownBlock ∧ k_ ≠ gb264) (.slice Ao27 t261.length co27) t261) := ⟨by (with_reducible repeat (first | apply Kd.V_alloc | apply Kd.V_drewN | apply Kd.V_drew)); exact Kd.V_mono (Kd.V_far (p := ⟨gb264, 1, none⟩) (Kd.V_far (p := ⟨gb264, 0, none⟩) (Kd.V_mono HO263.out (fun k_ hk => (⟨hk, hk.2⟩ : _ ∧ k_ ≠ gb264))) (fun _ hk => hk.2) (.slice Ao25 t258.length co25)) (fun _ hk => hk.2) (.slice Ao27 t261.length co27)) (fun _ hk => ⟨hk.1.1, hk.1.2⟩)⟩
          have n2_ : Aside0 (((w24.setCell ⟨gb264, 0, none⟩ (.slice Ao25 t258.length co25)).setCell ⟨gb264, 1, none⟩ (.slice Ao27 t261.length co27)).heap[gb264]? = some (.cells #[.slice Ao25 t258.length co25, .slice Ao27 t261.length co27] 25 (0, 0))) := ⟨by (with_reducible repeat (first | refine blk_drewN ?_ _ | refine blk_drew ?_ | refine blk_alloc ?_ _)); refine blk_put (cs := #[.slice Ao25 t258.length co25, .slice none 0 0]) ?_ 1 _ rfl; (with_reducible repeat (first | refine blk_drewN ?_ _ | refine blk_drew ?_ | refine blk_alloc ?_ _)); refine blk_put (cs := #[.slice none 0 0, .slice none 0 0]) ?_ 0 _ rfl; (with_reducible repeat (first | refine blk_drewN ?_ _ | refine blk_drew ?_ | refine blk_alloc ?_ _)); exact BK264.out⟩
          have n3_ : Aside0 (Below w.heap.size w ((w24.setCell ⟨gb264, 0, none⟩ (.slice Ao25 t258.length co25)).setCell ⟨gb264, 1, none⟩ (.slice Ao27 t261.length co27))) := ⟨zw1_ HB GE264⟩
          (try clear HO260)
          (try clear HO263)
          (try clear BK264)
          (try clear HB)
          generalize ((w24.setCell ⟨gb264, 0, none⟩ (.slice Ao25 t258.length co25)).setCell ⟨gb264, 1, none⟩ (.slice Ao27 t261.length co27)) = w28 at n0_ n1_ n2_ n3_ ⊢
          have HO260 := n0_
          have HO263 := n1_
          have BK264 := n2_
          have HB := n3_
          clear n0_ n1_ n2_ n3_
          replace HO260 := Aside0.mk (Kd.R_drew HO260.out)
          replace HO263 := Aside0.mk (Kd.V_drew HO263.out)
          replace BK264 := Aside0.mk (blk_drew BK264.out)
          replace HB := Aside0.mk (below_drew1 HB.out)
          refine start_ (n := 13) (S := fun w' => w'.cell? ⟨gb264, 0, none⟩ = some (.slice Ao25 t258.length co25) ∧ w'.cell? ⟨gb264, 1, none⟩ = some (.slice Ao27 t261.length co27)) (ds := []) #[false, false, false, false, false, false, false, false, false, false, false, false, false] (by kernel_rfl) rfl rfl ⟨(blk_cell BK264.out 0).trans rfl, (blk_cell BK264.out 1).trans rfl⟩ (fun hHeld => ?_); refine with_tabW carousellaw8_ConvShifts.tab6 carousellaw8_ConvShifts.bits6 (fun HT_ HW_ => ?_)
          generalize w28.drew = w29 at HO260 HO263 BK264 HB hHeld ⊢
          refine zp_ 0 (some 32) (h := ?_)
          refine zp_ 2 (some 34) (h := ?_)
          refine zt_ 5 (some 37) (hr := by rintro w' ⟨s0, s1⟩; go_simp; with_reducible rfl) (h := ?_)
          refine join_ (σ := Value × Value × Value × Value × Value × Value × Nat) 2 #[true, true, true, true, true, true, true, true, true, true, true, false, false] (fun s_ => [(33, s_.1), (35, s_.2.1), (36, .agg #[s_.2.2.1, s_.2.2.2.1]), (38, .tuple #[.agg #[s_.2.2.2.2.1, s_.2.2.2.2.2.1], .int .i64 t283]), (8, .pointer (some ⟨s_.2.2.2.2.2.2, 0, none⟩)), (31, .tuple #[.agg #[s_.2.2.2.2.1, s_.2.2.2.2.2.1], .int .i64 t283]), (39, .agg #[s_.2.2.2.2.1, s_.2.2.2.2.2.1]), (40, .int .i64 t283)]) (fun s_ w' => (w'.cell? ⟨gb264, 0, none⟩ = some (.slice Ao25 t258.length co25) ∧ w'.cell? ⟨gb264, 1, none⟩ = some (.slice Ao27 t261.length co27)) ∧ (Kd.R (Kd.int .i64) 3 w' w.heap.size (fun k_ => some k_ ≠ (s_.2.2.1 : Value).ownBlock ∧ some k_ ≠ (s_.2.2.2.2.1 : Value).ownBlock) (.slice Ao25 t258.length co25) t258) ∧ (Kd.V (Kd.int .i64) 33 w' w.heap.size (fun k_ => some k_ ≠ (.slice Ao25 t258.length co25 : Value).ownBlock ∧ some k_ ≠ (s_.2.1 : Value).ownBlock ∧ some k_ ≠ (s_.2.2.1 : Value).ownBlock ∧ some k_ ≠ (s_.2.2.2.2.1 : Value).ownBlock ∧ some k_ ≠ (s_.2.2.2.2.2.1 : Value).ownBlock ∧ k_ ≠ gb264 ∧ k_ ≠ s_.2.2.2.2.2.2) (.slice Ao27 t261.length co27) t261) ∧ (Kd.R (Kd.int .i64) 33 w' w.heap.size (fun k_ => some k_ ≠ (s_.2.2.2.2.2.1 : Value).ownBlock) s_.2.1 y268) ∧ (Kd.R (Kd.int .i64) 3 w' w.heap.size (fun k_ => some k_ ≠ (.slice Ao25 t258.length co25 : Value).ownBlock ∧ some k_ ≠ (s_.2.2.2.2.1 : Value).ownBlock) s_.2.2.1 t271) ∧ (Kd.V (Kd.int .i64) 33 w' w.heap.size (fun k_ => some k_ ≠ (.slice Ao25 t258.length co25 : Value).ownBlock ∧ some k_ ≠ (s_.2.2.1 : Value).ownBlock ∧ some k_ ≠ (s_.2.2.2.2.1 : Value).ownBlock ∧ some k_ ≠ (s_.2.2.2.2.2.1 : Value).ownBlock ∧ k_ ≠ gb264 ∧ k_ ≠ s_.2.2.2.2.2.2) s_.2.2.2.1 t274) ∧ (Kd.R (Kd.int .i64) 3 w' w.heap.size (fun k_ => some k_ ≠ (.slice Ao25 t258.length co25 : Value).ownBlock ∧ some k_ ≠ (s_.2.2.1 : Value).ownBlock) s_.2.2.2.2.1 t277) ∧ (Kd.R (Kd.int .i64) 33 w' w.heap.size (fun k_ => some k_ ≠ (s_.2.1 : Value).ownBlock) s_.2.2.2.2.2.1 t280) ∧ (w'.heap[gb264]? = some (.cells #[.slice Ao25 t258.length co25, .slice Ao27 t261.length co27] 25 (0, 0))) ∧ (w'.heap[s_.2.2.2.2.2.2]? = some (.cells #[.slice none 0 0, .slice none 0 0] 25 (0, 0))) ∧ (w.heap.size ≤ s_.2.2.2.2.2.2) ∧ (w.heap.size ≤ s_.2.2.2.2.2.2) ∧ (gb264 ≠ s_.2.2.2.2.2.2) ∧ (s_.2.2.2.2.2.2 ≠ gb264) ∧ (Below w.heap.size w w')) ?_ ?_
          rotate_left
          ·intro hJ1_3_4_6_10
           refine join_ (σ := Value × Value × Value × Value × Value × Value) 3 #[true, true, true, true, true, true, true, true, true, true, false, false, false] (fun s_ => [(33, s_.1), (35, s_.2.1), (36, .agg #[s_.2.2.1, s_.2.2.2.1]), (38, .tuple #[.agg #[s_.2.2.2.2.1, s_.2.2.2.2.2], .int .i64 t283]), (31, .tuple #[.agg #[s_.2.2.2.2.1, s_.2.2.2.2.2], .int .i64 t283]), (39, .agg #[s_.2.2.2.2.1, s_.2.2.2.2.2]), (40, .int .i64 t283)]) (fun s_ w' => (w'.cell? ⟨gb264, 0, none⟩ = some (.slice Ao25 t258.length co25) ∧ w'.cell? ⟨gb264, 1, none⟩ = some (.slice Ao27 t261.length co27)) ∧ (Kd.R (Kd.int .i64) 3 w' w.heap.size (fun k_ => some k_ ≠ (s_.2.2.1 : Value).ownBlock ∧ some k_ ≠ (s_.2.2.2.2.1 : Value).ownBlock) (.slice Ao25 t258.length co25) t258) ∧ (Kd.V (Kd.int .i64) 33 w' w.heap.size (fun k_ => some k_ ≠ (.slice Ao25 t258.length co25 : Value).ownBlock ∧ some k_ ≠ (s_.2.1 : Value).ownBlock ∧ some k_ ≠ (s_.2.2.1 : Value).ownBlock ∧ some k_ ≠ (s_.2.2.2.2.1 : Value).ownBlock ∧ some k_ ≠ (s_.2.2.2.2.2 : Value).ownBlock ∧ k_ ≠ gb264) (.slice Ao27 t261.length co27) t261) ∧ (Kd.R (Kd.int .i64) 33 w' w.heap.size (fun k_ => some k_ ≠ (s_.2.2.2.2.2 : Value).ownBlock) s_.2.1 y268) ∧ (Kd.R (Kd.int .i64) 3 w' w.heap.size (fun k_ => some k_ ≠ (.slice Ao25 t258.length co25 : Value).ownBlock ∧ some k_ ≠ (s_.2.2.2.2.1 : Value).ownBlock) s_.2.2.1 t271) ∧ (Kd.V (Kd.int .i64) 33 w' w.heap.size (fun k_ => some k_ ≠ (.slice Ao25 t258.length co25 : Value).ownBlock ∧ some k_ ≠ (s_.2.2.1 : Value).ownBlock ∧ some k_ ≠ (s_.2.2.2.2.1 : Value).ownBlock ∧ some k_ ≠ (s_.2.2.2.2.2 : Value).ownBlock ∧ k_ ≠ gb264) s_.2.2.2.1 t274) ∧ (Kd.R (Kd.int .i64) 3 w' w.heap.size (fun k_ => some k_ ≠ (.slice Ao25 t258.length co25 : Value).ownBlock ∧ some k_ ≠ (s_.2.2.1 : Value).ownBlock) s_.2.2.2.2.1 t277) ∧ (Kd.R (Kd.int .i64) 33 w' w.heap.size (fun k_ => some k_ ≠ (s_.2.1 : Value).ownBlock) s_.2.2.2.2.2 t280) ∧ (w'.heap[gb264]? = some (.cells #[.slice Ao25 t258.length co25, .slice Ao27 t261.length co27] 25 (0, 0))) ∧ (Below w.heap.size w w')) ?_ ?_
           rotate_left
           ·intro hJ1_3_4_6
            refine join_ (σ := Value × Value × Value × Value × Nat) 6 #[true, true, true, true, true, true, false, false, false, false, true, false, false] (fun s_ => [(33, s_.1), (35, s_.2.1), (36, .agg #[s_.2.2.1, s_.2.2.2.1]), (8, .pointer (some ⟨s_.2.2.2.2, 0, none⟩))]) (fun s_ w' => (w'.cell? ⟨gb264, 0, none⟩ = some (.slice Ao25 t258.length co25) ∧ w'.cell? ⟨gb264, 1, none⟩ = some (.slice Ao27 t261.length co27)) ∧ (Kd.R (Kd.int .i64) 3 w' w.heap.size (fun k_ => some k_ ≠ (s_.2.2.1 : Value).ownBlock) (.slice Ao25 t258.length co25) t258) ∧ (Kd.V (Kd.int .i64) 33 w' w.heap.size (fun k_ => some k_ ≠ (.slice Ao25 t258.length co25 : Value).ownBlock ∧ some k_ ≠ (s_.2.1 : Value).ownBlock ∧ some k_ ≠ (s_.2.2.1 : Value).ownBlock ∧ k_ ≠ gb264 ∧ k_ ≠ s_.2.2.2.2) (.slice Ao27 t261.length co27) t261) ∧ (Kd.R (Kd.int .i64) 33 w' w.heap.size (fun _ => True) s_.2.1 y268) ∧ (Kd.R (Kd.int .i64) 3 w' w.heap.size (fun k_ => some k_ ≠ (.slice Ao25 t258.length co25 : Value).ownBlock) s_.2.2.1 t271) ∧ (Kd.V (Kd.int .i64) 33 w' w.heap.size (fun k_ => some k_ ≠ (.slice Ao25 t258.length co25 : Value).ownBlock ∧ some k_ ≠ (s_.2.2.1 : Value).ownBlock ∧ k_ ≠ gb264 ∧ k_ ≠ s_.2.2.2.2) s_.2.2.2.1 t274) ∧ (w'.heap[gb264]? = some (.cells #[.slice Ao25 t258.length co25, .slice Ao27 t261.length co27] 25 (0, 0))) ∧ (w'.heap[s_.2.2.2.2]? = some (.cells #[.slice none 0 0, .slice none 0 0] 25 (0, 0))) ∧ (w.heap.size ≤ s_.2.2.2.2) ∧ (w.heap.size ≤ s_.2.2.2.2) ∧ (gb264 ≠ s_.2.2.2.2) ∧ (s_.2.2.2.2 ≠ gb264) ∧ (Below w.heap.size w w')) ?_ ?_
            rotate_left
            ·intro hJ1_3_4_10
             refine join_ (σ := Value × Value × Value × Value) 7 #[true, true, true, true, true, true, false, false, false, false, false, false, false] (fun s_ => [(33, s_.1), (35, s_.2.1), (36, .agg #[s_.2.2.1, s_.2.2.2])]) (fun s_ w' => (w'.cell? ⟨gb264, 0, none⟩ = some (.slice Ao25 t258.length co25) ∧ w'.cell? ⟨gb264, 1, none⟩ = some (.slice Ao27 t261.length co27)) ∧ (Kd.R (Kd.int .i64) 3 w' w.heap.size (fun k_ => some k_ ≠ (s_.2.2.1 : Value).ownBlock) (.slice Ao25 t258.length co25) t258) ∧ (Kd.V (Kd.int .i64) 33 w' w.heap.size (fun k_ => some k_ ≠ (.slice Ao25 t258.length co25 : Value).ownBlock ∧ some k_ ≠ (s_.2.1 : Value).ownBlock ∧ some k_ ≠ (s_.2.2.1 : Value).ownBlock ∧ k_ ≠ gb264) (.slice Ao27 t261.length co27) t261) ∧ (Kd.R (Kd.int .i64) 33 w' w.heap.size (fun _ => True) s_.2.1 y268) ∧ (Kd.R (Kd.int .i64) 3 w' w.heap.size (fun k_ => some k_ ≠ (.slice Ao25 t258.length co25 : Value).ownBlock) s_.2.2.1 t271) ∧ (Kd.V (Kd.int .i64) 33 w' w.heap.size (fun k_ => some k_ ≠ (.slice Ao25 t258.length co25 : Value).ownBlock ∧ some k_ ≠ (s_.2.2.1 : Value).ownBlock ∧ k_ ≠ gb264) s_.2.2.2 t274) ∧ (w'.heap[gb264]? = some (.cells #[.slice Ao25 t258.length co25, .slice Ao27 t261.length co27] 25 (0, 0))) ∧ (Below w.heap.size w w')) ?_ ?_
             rotate_left
             ·intro hJ1_3_4
              refine join_ (σ := Value × Value × Nat) 7 #[true, true, true, true, false, true, false, false, false, false, true, false, false] (fun s_ => [(33, s_.1), (35, s_.2.1), (8, .pointer (some ⟨s_.2.2, 0, none⟩))]) (fun s_ w' => (w'.cell? ⟨gb264, 0, none⟩ = some (.slice Ao25 t258.length co25) ∧ w'.cell? ⟨gb264, 1, none⟩ = some (.slice Ao27 t261.length co27)) ∧ (Kd.R (Kd.int .i64) 3 w' w.heap.size (fun _ => True) (.slice Ao25 t258.length co25) t258) ∧ (Kd.V (Kd.int .i64) 33 w' w.heap.size (fun k_ => some k_ ≠ (.slice Ao25 t258.length co25 : Value).ownBlock ∧ some k_ ≠ (s_.2.1 : Value).ownBlock ∧ k_ ≠ gb264 ∧ k_ ≠ s_.2.2) (.slice Ao27 t261.length co27) t261) ∧ (Kd.R (Kd.int .i64) 33 w' w.heap.size (fun _ => True) s_.2.1 y268) ∧ (w'.heap[gb264]? = some (.cells #[.slice Ao25 t258.length co25, .slice Ao27 t261.length co27] 25 (0, 0))) ∧ (w'.heap[s_.2.2]? = some (.cells #[.slice none 0 0, .slice none 0 0] 25 (0, 0))) ∧ (w.heap.size ≤ s_.2.2) ∧ (w.heap.size ≤ s_.2.2) ∧ (gb264 ≠ s_.2.2) ∧ (s_.2.2 ≠ gb264) ∧ (Below w.heap.size w w')) ?_ ?_
              rotate_left
              ·intro hJ1_3_10
               refine join_ (σ := Value × Value) 8 #[true, true, true, true, false, true, false, false, false, false, false, false, false] (fun s_ => [(33, s_.1), (35, s_.2)]) (fun s_ w' => (w'.cell? ⟨gb264, 0, none⟩ = some (.slice Ao25 t258.length co25) ∧ w'.cell? ⟨gb264, 1, none⟩ = some (.slice Ao27 t261.length co27)) ∧ (Kd.R (Kd.int .i64) 3 w' w.heap.size (fun _ => True) (.slice Ao25 t258.length co25) t258) ∧ (Kd.V (Kd.int .i64) 33 w' w.heap.size (fun k_ => some k_ ≠ (.slice Ao25 t258.length co25 : Value).ownBlock ∧ some k_ ≠ (s_.2 : Value).ownBlock ∧ k_ ≠ gb264) (.slice Ao27 t261.length co27) t261) ∧ (Kd.R (Kd.int .i64) 33 w' w.heap.size (fun _ => True) s_.2 y268) ∧ (w'.heap[gb264]? = some (.cells #[.slice Ao25 t258.length co25, .slice Ao27 t261.length co27] 25 (0, 0))) ∧ (Below w.heap.size w w')) ?_ ?_
               rotate_left
               ·intro hJ1_3
                refine join_ (σ := Value × Nat) 8 #[true, true, true, false, false, true, false, false, false, false, true, false, false] (fun s_ => [(33, s_.1), (8, .pointer (some ⟨s_.2, 0, none⟩))]) (fun s_ w' => (w'.cell? ⟨gb264, 0, none⟩ = some (.slice Ao25 t258.length co25) ∧ w'.cell? ⟨gb264, 1, none⟩ = some (.slice Ao27 t261.length co27)) ∧ (Kd.R (Kd.int .i64) 3 w' w.heap.size (fun _ => True) (.slice Ao25 t258.length co25) t258) ∧ (Kd.V (Kd.int .i64) 33 w' w.heap.size (fun k_ => some k_ ≠ (.slice Ao25 t258.length co25 : Value).ownBlock ∧ some k_ ≠ (s_.1 : Value).ownBlock ∧ k_ ≠ gb264 ∧ k_ ≠ s_.2) (.slice Ao27 t261.length co27) t261) ∧ (Kd.R (Kd.int .i64) 33 w' w.heap.size (fun _ => True) s_.1 y265) ∧ (w'.heap[gb264]? = some (.cells #[.slice Ao25 t258.length co25, .slice Ao27 t261.length co27] 25 (0, 0))) ∧ (w'.heap[s_.2]? = some (.cells #[.slice none 0 0, .slice none 0 0] 25 (0, 0))) ∧ (w.heap.size ≤ s_.2) ∧ (w.heap.size ≤ s_.2) ∧ (gb264 ≠ s_.2) ∧ (s_.2 ≠ gb264) ∧ (Below w.heap.size w w')) ?_ ?_
                rotate_left
                ·intro hJ1_10
                 refine join_ (σ := Value) 9 #[true, true, true, false, false, true, false, false, false, false, false, false, false] (fun s_ => [(33, s_)]) (fun s_ w' => (w'.cell? ⟨gb264, 0, none⟩ = some (.slice Ao25 t258.length co25) ∧ w'.cell? ⟨gb264, 1, none⟩ = some (.slice Ao27 t261.length co27)) ∧ (Kd.R (Kd.int .i64) 3 w' w.heap.size (fun _ => True) (.slice Ao25 t258.length co25) t258) ∧ (Kd.V (Kd.int .i64) 33 w' w.heap.size (fun k_ => some k_ ≠ (.slice Ao25 t258.length co25 : Value).ownBlock ∧ some k_ ≠ (s_ : Value).ownBlock ∧ k_ ≠ gb264) (.slice Ao27 t261.length co27) t261) ∧ (Kd.R (Kd.int .i64) 33 w' w.heap.size (fun _ => True) s_ y265) ∧ (w'.heap[gb264]? = some (.cells #[.slice Ao25 t258.length co25, .slice Ao27 t261.length co27] 25 (0, 0))) ∧ (Below w.heap.size w w')) ?_ ?_
                 rotate_left
                 ·intro hJ1
                  refine join_ (σ := Nat) 9 #[true, false, true, false, false, true, false, false, false, false, true, false, false] (fun s_ => [(8, .pointer (some ⟨s_, 0, none⟩))]) (fun s_ w' => (w'.cell? ⟨gb264, 0, none⟩ = some (.slice Ao25 t258.length co25) ∧ w'.cell? ⟨gb264, 1, none⟩ = some (.slice Ao27 t261.length co27)) ∧ (Kd.R (Kd.int .i64) 3 w' w.heap.size (fun _ => True) (.slice Ao25 t258.length co25) t258) ∧ (Kd.V (Kd.int .i64) 33 w' w.heap.size (fun k_ => some k_ ≠ (.slice Ao25 t258.length co25 : Value).ownBlock ∧ k_ ≠ gb264 ∧ k_ ≠ s_) (.slice Ao27 t261.length co27) t261) ∧ (w'.heap[gb264]? = some (.cells #[.slice Ao25 t258.length co25, .slice Ao27 t261.length co27] 25 (0, 0))) ∧ (w'.heap[s_]? = some (.cells #[.slice none 0 0, .slice none 0 0] 25 (0, 0))) ∧ (w.heap.size ≤ s_) ∧ (w.heap.size ≤ s_) ∧ (gb264 ≠ s_) ∧ (s_ ≠ gb264) ∧ (Below w.heap.size w w')) ?_ ?_
                  rotate_left
                  ·intro hJ10
                   refine two_ (i := 1) (j := 10) (Ni := some 33) (Nj := some 8) #[true, true, true, false, false, true, false, false, false, false, false, false, false] #[true, false, true, false, false, true, false, false, false, false, true, false, false] rfl rfl rfl rfl (two_of HT_.out (by kernel_rfl)) (by decide) (by decide) (fun K hK => ?_) (fun K hK => ?_)
                   ·skip
                    refine Kd.R_lit_step (Kd.int .i64) _ 33 ?hg (N := 33) ?hd (xs := ([a0] : List Int)) (inner := [.int .i64 a0]) (ok := fun _ => True) (okp := fun _ => True) ?hr ?hp (fun _ hk => hk) trivial (Below.refl _ _) (Nat.le_refl _) (by simp) ?_; (case hd => rfl); (case hg => rfl); (case hr => first | (go_simp; done) | (go_simp; rfl)); (case hp => exact (Reps.one (show Kd.M (Kd.int .i64) _ _ _ a0 [.int .i64 a0] from rfl) (Reps.none _ _)))
                    intro v266 w30 ho31 hb hg_ hnew_
                    clear hg_ hnew_
                    (first | rw [← Ny265.out] at ho31 | (simp only [Int.reduceToNat] at ho31; rw [← Ny265.out] at ho31))
                    replace HO260 := Aside0.mk (Kd.R_below (zr_ HO260.out) hb)
                    replace HO263 := Aside0.mk (Kd.V_elder' (by (with_reducible repeat (first | apply Kd.V_alloc | apply Kd.V_drewN | apply Kd.V_drew)); exact HO263.out) (Kd.R_base ho31) hb)
                    have HO267 := Aside0.mk (Kd.R_lower ho31 (below_size (zw1_ HB GE264)))
                    replace BK264 := Aside0.mk (zl_ BK264 hb)
                    replace HB := Aside0.mk (below_step (zw1_ HB GE264) hb)
                    clear hb ho31
                    refine hK.out _ _ ⟨(blk_cell BK264.out 0).trans rfl, (blk_cell BK264.out 1).trans rfl⟩ (fun hHeld => ?_)
                    clear hK K
                    refine zq_ (some 33) (h := ?_)
                    exact zj_ (hJ1 (v266) _ ⟨hHeld, (zr_ HO260.out), (by (with_reducible repeat (first | apply Kd.V_alloc | apply Kd.V_drewN | apply Kd.V_drew)); exact Kd.V_mono HO263.out (fun _ hk => ⟨hk.1.1, ⟨hk.2, hk.1.2⟩⟩)), (zr_ HO267.out), (zb_ BK264), (zw1_ HB GE264)⟩)
                   ·skip
                    refine box_step ?hg (N := 8) ?hd (cs := #[.slice none 0 0, .slice none 0 0]) (t := 25) ?hr ?_; (case hd => rfl); (case hg => rfl); (case hr => first | (go_simp; done) | (go_simp; rfl))
                    intro gb284 hg w30 hbox hb
                    replace HO260 := Aside0.mk (Kd.R_below (zr_ HO260.out) hb)
                    replace HO263 := Aside0.mk (Kd.V_below (Kd.V_elderB (by (with_reducible repeat (first | apply Kd.V_alloc | apply Kd.V_drewN | apply Kd.V_drew)); exact HO263.out) gb284 (Nat.le_of_eq hg.symm)) hb)
                    have BK284 := Aside0.mk (hbox)
                    have GW284 := Aside0.mk (zs_ hg (zw1_ HB GE264))
                    have GE284 := Aside0.mk (zs_ hg (zw1_ HB GE264))
                    replace HB := Aside0.mk (below_step (zw1_ HB GE264) hb)
                    have NB264_284 := Aside0.mk (zn_ hg BK264)
                    have NB284_264 := Aside0.mk (zm_ hg BK264)
                    replace BK264 := Aside0.mk (zl_ BK264 hb)
                    clear hb hbox hg
                    refine hK.out _ _ ⟨(blk_cell BK264.out 0).trans rfl, (blk_cell BK264.out 1).trans rfl⟩ (fun hHeld => ?_)
                    clear hK K
                    refine zq_ (some 8) (h := ?_)
                    exact zj_ (hJ10 (gb284) _ ⟨hHeld, (zr_ HO260.out), (by (with_reducible repeat (first | apply Kd.V_alloc | apply Kd.V_drewN | apply Kd.V_drew)); exact Kd.V_mono HO263.out (fun _ hk => ⟨hk.1.1, ⟨hk.1.2, hk.2⟩⟩)), (zb_ BK264), (zb_ BK284), GW284.out, GE284.out, NB264_284.out, NB284_264.out, (zw2_ HB GE264 GE284)⟩)
                  ·skip
                   rintro gb284 w31 ⟨hS_, h0_, h1_, h2_, h3_, h4_, h5_, h6_, h7_, h8_⟩
                   (try dsimp only at h0_ h1_ h2_ h3_ h4_ h5_ h6_ h7_ h8_)
                   clear HO260 HO263 BK264 HB
                   have HO260 := Aside0.mk h0_
                   have HO263 := Aside0.mk h1_
                   have BK264 := Aside0.mk h2_
                   have BK284 := Aside0.mk h3_
                   have GW284 := Aside0.mk h4_
                   have GE284 := Aside0.mk h5_
                   have NB264_284 := Aside0.mk h6_
                   have NB284_264 := Aside0.mk h7_
                   have HB := Aside0.mk h8_
                   clear h0_ h1_ h2_ h3_ h4_ h5_ h6_ h7_ h8_
                   have hHeld : w31.cell? ⟨gb264, 0, none⟩ = some (.slice Ao25 t258.length co25) ∧ w31.cell? ⟨gb264, 1, none⟩ = some (.slice Ao27 t261.length co27) := hS_
                   refine zi_ (h := ?_)
                   refine one_ (i := 1) (N := some 33) #[true, true, true, false, false, true, false, false, false, false, true, false, false] rfl rfl (one_of HT_.out (by kernel_rfl)) (by decide) (fun K hK => ?_)
                   refine Kd.R_lit_step (Kd.int .i64) _ 33 ?hg (N := 33) ?hd (xs := ([a0] : List Int)) (inner := [.int .i64 a0]) (ok := fun _ => True) (okp := fun _ => True) ?hr ?hp (fun _ hk => hk) trivial (Below.refl _ _) (Nat.le_refl _) (by simp) ?_; (case hd => rfl); (case hg => rfl); (case hr => first | (go_simp; done) | (go_simp; rfl)); (case hp => exact (Reps.one (show Kd.M (Kd.int .i64) _ _ _ a0 [.int .i64 a0] from rfl) (Reps.none _ _)))
                   intro v266 w32 ho33 hb hg_ hnew_
                   clear hg_ hnew_
                   (first | rw [← Ny265.out] at ho33 | (simp only [Int.reduceToNat] at ho33; rw [← Ny265.out] at ho33))
                   replace HO260 := Aside0.mk (Kd.R_below (zr_ HO260.out) hb)
                   replace HO263 := Aside0.mk (Kd.V_elder' (by (with_reducible repeat (first | apply Kd.V_alloc | apply Kd.V_drewN | apply Kd.V_drew)); exact HO263.out) (Kd.R_base ho33) hb)
                   have HO267 := Aside0.mk (Kd.R_lower ho33 (below_size (zw2_ HB GE264 GE284)))
                   replace BK264 := Aside0.mk (zl_ BK264 hb)
                   replace BK284 := Aside0.mk (zl_ BK284 hb)
                   replace HB := Aside0.mk (below_step (zw2_ HB GE264 GE284) hb)
                   clear hb ho33
                   refine hK.out _ _ ⟨(blk_cell BK264.out 0).trans rfl, (blk_cell BK264.out 1).trans rfl⟩ (fun hHeld => ?_)
                   clear hK K
                   refine zq_ (some 33) (h := ?_)
                   exact zj_ (hJ1_10 (v266, gb284) _ ⟨hHeld, (zr_ HO260.out), (by (with_reducible repeat (first | apply Kd.V_alloc | apply Kd.V_drewN | apply Kd.V_drew)); exact Kd.V_mono HO263.out (fun _ hk => ⟨hk.1.1, ⟨hk.2, ⟨hk.1.2.1, hk.1.2.2⟩⟩⟩)), (zr_ HO267.out), (zb_ BK264), (zb_ BK284), GW284.out, GE284.out, NB264_284.out, NB284_264.out, (zw2_ HB GE264 GE284)⟩)
                 ·skip
                  rintro v266 w32 ⟨hS_, h0_, h1_, h2_, h3_, h4_⟩
                  (try dsimp only at h0_ h1_ h2_ h3_ h4_)
                  clear HO260 HO263 BK264 HB
                  have HO260 := Aside0.mk h0_
                  have HO263 := Aside0.mk h1_
                  have HO267 := Aside0.mk h2_
                  have BK264 := Aside0.mk h3_
                  have HB := Aside0.mk h4_
                  clear h0_ h1_ h2_ h3_ h4_
                  have hHeld : w32.cell? ⟨gb264, 0, none⟩ = some (.slice Ao25 t258.length co25) ∧ w32.cell? ⟨gb264, 1, none⟩ = some (.slice Ao27 t261.length co27) := hS_
                  refine zi_ (h := ?_)
                  refine two_ (i := 3) (j := 10) (Ni := some 35) (Nj := some 8) #[true, true, true, true, false, true, false, false, false, false, false, false, false] #[true, true, true, false, false, true, false, false, false, false, true, false, false] rfl rfl rfl rfl (two_of HT_.out (by kernel_rfl)) (by decide) (by decide) (fun K hK => ?_) (fun K hK => ?_)
                  ·skip
                   refine Kd.R_append_rows_step (Kd.int .i64) (w0 := w) w.heap.size (by rfl) (.tmp 33) (.tmp 34) 23 33 (.int .i64 0) 8 rfl Try.underlying23 info33 rfl (by decide) (by omega) v266 y265 l1 _ _ _ (fun _ => True) (fun _ => False) rfl rfl ?aO ?aR (fun _ _ h => h) (fun _ h => h.elim) ?aF ?aB ?aS ?aL ?_
                   (case aR => exact zk_ (Kd.C_below HR1.out HB.out))
                   (case aB => exact (zw1_ HB GE264))
                   (case aF => exact (fun _ _ => trivial))
                   (case aO => exact (zr_ HO267.out))
                   (case aS => exact (below_size (zw1_ HB GE264)))
                   (case aL => have := LMc12.out; omega)
                   intro v269 w33 ho hb hg hat
                   rw [← Ny268.out] at ho
                   replace HO260 := Aside0.mk (Kd.R_over' (zr_ HO260.out) (Kd.R_typed (zr_ HO267.out)) (by decide) hg)
                   replace HO263 := Aside0.mk (Kd.V_afterv (ok := (fun k_ => some k_ ≠ (.slice Ao25 t258.length co25 : Value).ownBlock ∧ k_ ≠ gb264)) (by (with_reducible repeat (first | apply Kd.V_alloc | apply Kd.V_drewN | apply Kd.V_drew)); exact Kd.V_mono HO263.out (fun _ hk => ⟨⟨hk.1, hk.2.2⟩, hk.2.1⟩)) hg hat)
                   replace BK264 := Aside0.mk (zh_ BK264 hg (Kd.R_ne HO267.out BK264.out (by decide)))
                   replace HB := Aside0.mk (hb)
                   have HO270 := Aside0.mk (ho)
                   clear HO267
                   clear ho hb hg hat
                   refine hK.out _ _ ⟨(blk_cell BK264.out 0).trans rfl, (blk_cell BK264.out 1).trans rfl⟩ (fun hHeld => ?_)
                   clear hK K
                   refine zq_ (some 35) (h := ?_)
                   exact zj_ (hJ1_3 (v266, v269) _ ⟨hHeld, (zr_ HO260.out), (by (with_reducible repeat (first | apply Kd.V_alloc | apply Kd.V_drewN | apply Kd.V_drew)); exact Kd.V_mono HO263.out (fun _ hk => ⟨hk.1.1, ⟨hk.2, hk.1.2⟩⟩)), (zr_ HO270.out), (zb_ BK264), (zw1_ HB GE264)⟩)
                  ·skip
                   refine box_step ?hg (N := 8) ?hd (cs := #[.slice none 0 0, .slice none 0 0]) (t := 25) ?hr ?_; (case hd => rfl); (case hg => rfl); (case hr => first | (go_simp; done) | (go_simp; rfl))
                   intro gb284 hg w33 hbox hb
                   replace HO260 := Aside0.mk (Kd.R_below (zr_ HO260.out) hb)
                   replace HO263 := Aside0.mk (Kd.V_below (Kd.V_elderB (by (with_reducible repeat (first | apply Kd.V_alloc | apply Kd.V_drewN | apply Kd.V_drew)); exact HO263.out) gb284 (Nat.le_of_eq hg.symm)) hb)
                   replace HO267 := Aside0.mk (Kd.R_below (zr_ HO267.out) hb)
                   have BK284 := Aside0.mk (hbox)
                   have GW284 := Aside0.mk (zs_ hg (zw1_ HB GE264))
                   have GE284 := Aside0.mk (zs_ hg (zw1_ HB GE264))
                   replace HB := Aside0.mk (below_step (zw1_ HB GE264) hb)
                   have NB264_284 := Aside0.mk (zn_ hg BK264)
                   have NB284_264 := Aside0.mk (zm_ hg BK264)
                   replace BK264 := Aside0.mk (zl_ BK264 hb)
                   clear hb hbox hg
                   refine hK.out _ _ ⟨(blk_cell BK264.out 0).trans rfl, (blk_cell BK264.out 1).trans rfl⟩ (fun hHeld => ?_)
                   clear hK K
                   refine zq_ (some 8) (h := ?_)
                   exact zj_ (hJ1_10 (v266, gb284) _ ⟨hHeld, (zr_ HO260.out), (by (with_reducible repeat (first | apply Kd.V_alloc | apply Kd.V_drewN | apply Kd.V_drew)); exact Kd.V_mono HO263.out (fun _ hk => ⟨hk.1.1, ⟨hk.1.2.1, ⟨hk.1.2.2, hk.2⟩⟩⟩)), (zr_ HO267.out), (zb_ BK264), (zb_ BK284), GW284.out, GE284.out, NB264_284.out, NB284_264.out, (zw2_ HB GE264 GE284)⟩)
                ·skip
                 rintro ⟨v266, gb284⟩ w33 ⟨hS_, h0_, h1_, h2_, h3_, h4_, h5_, h6_, h7_, h8_, h9_⟩
                 (try dsimp only at h0_ h1_ h2_ h3_ h4_ h5_ h6_ h7_ h8_ h9_)
                 clear HO260 HO263 BK264 HB
                 have HO260 := Aside0.mk h0_
                 have HO263 := Aside0.mk h1_
                 have HO267 := Aside0.mk h2_
                 have BK264 := Aside0.mk h3_
                 have BK284 := Aside0.mk h4_
                 have GW284 := Aside0.mk h5_
                 have GE284 := Aside0.mk h6_
                 have NB264_284 := Aside0.mk h7_
                 have NB284_264 := Aside0.mk h8_
                 have HB := Aside0.mk h9_
                 clear h0_ h1_ h2_ h3_ h4_ h5_ h6_ h7_ h8_ h9_
                 have hHeld : w33.cell? ⟨gb264, 0, none⟩ = some (.slice Ao25 t258.length co25) ∧ w33.cell? ⟨gb264, 1, none⟩ = some (.slice Ao27 t261.length co27) := hS_
                 refine zi_ (h := ?_)
                 refine one_ (i := 3) (N := some 35) #[true, true, true, true, false, true, false, false, false, false, true, false, false] rfl rfl (one_of HT_.out (by kernel_rfl)) (by decide) (fun K hK => ?_)
                 refine Kd.R_append_rows_step (Kd.int .i64) (w0 := w) w.heap.size (by rfl) (.tmp 33) (.tmp 34) 23 33 (.int .i64 0) 8 rfl Try.underlying23 info33 rfl (by decide) (by omega) v266 y265 l1 _ _ _ (fun _ => True) (fun _ => False) rfl rfl ?aO ?aR (fun _ _ h => h) (fun _ h => h.elim) ?aF ?aB ?aS ?aL ?_
                 (case aR => exact zk_ (Kd.C_below HR1.out HB.out))
                 (case aB => exact (zw2_ HB GE264 GE284))
                 (case aF => exact (fun _ _ => trivial))
                 (case aO => exact (zr_ HO267.out))
                 (case aS => exact (below_size (zw2_ HB GE264 GE284)))
                 (case aL => have := LMc12.out; omega)
                 intro v269 w34 ho hb hg hat
                 rw [← Ny268.out] at ho
                 replace HO260 := Aside0.mk (Kd.R_over' (zr_ HO260.out) (Kd.R_typed (zr_ HO267.out)) (by decide) hg)
                 replace HO263 := Aside0.mk (Kd.V_afterv (ok := (fun k_ => some k_ ≠ (.slice Ao25 t258.length co25 : Value).ownBlock ∧ k_ ≠ gb264 ∧ k_ ≠ gb284)) (by (with_reducible repeat (first | apply Kd.V_alloc | apply Kd.V_drewN | apply Kd.V_drew)); exact Kd.V_mono HO263.out (fun _ hk => ⟨⟨hk.1, ⟨hk.2.2.1, hk.2.2.2⟩⟩, hk.2.1⟩)) hg hat)
                 replace BK264 := Aside0.mk (zh_ BK264 hg (Kd.R_ne HO267.out BK264.out (by decide)))
                 replace BK284 := Aside0.mk (zh_ BK284 hg (Kd.R_ne HO267.out BK284.out (by decide)))
                 replace HB := Aside0.mk (hb)
                 have HO270 := Aside0.mk (ho)
                 clear HO267
                 clear ho hb hg hat
                 refine hK.out _ _ ⟨(blk_cell BK264.out 0).trans rfl, (blk_cell BK264.out 1).trans rfl⟩ (fun hHeld => ?_)
                 clear hK K
                 refine zq_ (some 35) (h := ?_)
                 exact zj_ (hJ1_3_10 (v266, v269, gb284) _ ⟨hHeld, (zr_ HO260.out), (by (with_reducible repeat (first | apply Kd.V_alloc | apply Kd.V_drewN | apply Kd.V_drew)); exact Kd.V_mono HO263.out (fun _ hk => ⟨hk.1.1, ⟨hk.2, ⟨hk.1.2.1, hk.1.2.2⟩⟩⟩)), (zr_ HO270.out), (zb_ BK264), (zb_ BK284), GW284.out, GE284.out, NB264_284.out, NB284_264.out, (zw2_ HB GE264 GE284)⟩)
               ·skip
                rintro ⟨v266, v269⟩ w33 ⟨hS_, h0_, h1_, h2_, h3_, h4_⟩
                (try dsimp only at h0_ h1_ h2_ h3_ h4_)
                clear HO260 HO263 BK264 HB
                have HO260 := Aside0.mk h0_
                have HO263 := Aside0.mk h1_
                have HO270 := Aside0.mk h2_
                have BK264 := Aside0.mk h3_
                have HB := Aside0.mk h4_
                clear h0_ h1_ h2_ h3_ h4_
                have hHeld : w33.cell? ⟨gb264, 0, none⟩ = some (.slice Ao25 t258.length co25) ∧ w33.cell? ⟨gb264, 1, none⟩ = some (.slice Ao27 t261.length co27) := hS_
                obtain ⟨Ao34, co34, eo34⟩ := Kd.R_slice HO270.out
                (first | subst eo34 | (injection eo34 with f1_ f2_ f3_; have f4_ := f1_.symm; have f5_ := f3_.symm; clear f1_ f2_ f3_; subst f4_; subst f5_))
                refine zi_ (h := ?_)
                refine two_ (i := 4) (j := 10) (Ni := some 36) (Nj := some 8) #[true, true, true, true, true, true, false, false, false, false, false, false, false] #[true, true, true, true, false, true, false, false, false, false, true, false, false] rfl rfl rfl rfl (two_of HT_.out (by kernel_rfl)) (by decide) (by decide) (fun K hK => ?_) (fun K hK => ?_)
                ·skip
                 refine goes_ Try.func17 (by kernel_rfl) rfl #[.int .i64 1, .slice Ao34 y268.length co34] (by rfl) rfl rfl (by (try simp only [List.map_toArray, List.map_cons, List.map_nil]); first | done | rfl | (simp only [List.length_drop, List.length_take]; rfl)) ?_
                 with_reducible refine (carousellaw8_rows.calls 1 (fun k_ => some k_ = (.slice Ao34 y268.length co34 : Value).ownBlock) _ _ y268 t271 t274 _ ?side1 A13.out).mono ?_
                 (case side1 => exact Kd.R_V (Kd.R_tight rfl (Kd.R_types (Kd.R_apart' (HO270.out) (Kd.R_typed HO260.out) (by decide)) BK264.out (by decide))))
                 rintro e w35 ⟨v272, v275, rfl, ho0, ho1, hb⟩
                 refine ⟨_, rfl, ?_⟩
                 replace HO263 := Aside0.mk (Kd.V_elder' (by (with_reducible repeat (first | apply Kd.V_alloc | apply Kd.V_drewN | apply Kd.V_drew)); exact HO263.out) (Kd.R_base ho0) hb)
                 have HO273 := Aside0.mk (Kd.R_lower (Kd.R_new' (Kd.R_mono (ok' := fun k_ => True) ho0 (fun _ hk_ => trivial)) (Kd.R_lt (zr_ HO260.out))) (below_size (zw1_ HB GE264)))
                 have HO276 := Aside0.mk (Kd.V_lower (Kd.V_mono (ok' := fun k_ => some k_ ≠ (v272 : Value).ownBlock ∧ some k_ ≠ (.slice Ao25 t258.length co25 : Value).ownBlock ∧ k_ ≠ gb264) ho1 (fun k_ hk_ => ⟨hk_.2, Or.elim hk_.1 (fun hs_ => ((Kd.R_types (Kd.R_apart' (HO270.out) (Kd.R_typed HO260.out) (by decide)) BK264.out (by decide)).1 k_ hs_.symm).1.2) (fun hn_ => (Kd.fresh' (Kd.R_lt (zr_ HO260.out)) k_ hn_)), Or.elim hk_.1 (fun hs_ => ((Kd.R_types (Kd.R_apart' (HO270.out) (Kd.R_typed HO260.out) (by decide)) BK264.out (by decide)).1 k_ hs_.symm).2) (fun hn_ => (Kd.freshB (g := gb264) (o := .cells #[.slice Ao25 t258.length co25, .slice Ao27 t261.length co27] 25 (0, 0)) (zb_ BK264) k_ hn_))⟩)) (below_size (zw1_ HB GE264)))
                 replace HO260 := Aside0.mk (Kd.R_elder' (zr_ HO260.out) (Kd.R_base ho0) hb)
                 replace HO270 := Aside0.mk (Kd.R_below (zr_ HO270.out) hb)
                 replace BK264 := Aside0.mk (zl_ BK264 hb)
                 replace HB := Aside0.mk (below_step (zw1_ HB GE264) hb)
                 (try clear hb)
                 (try clear hb2)
                 (try clear hk)
                 (try clear hi)
                 (try clear ho0)
                 (try clear ho1)
                 refine hK.out _ _ ⟨(blk_cell BK264.out 0).trans rfl, (blk_cell BK264.out 1).trans rfl⟩ (fun hHeld => ?_)
                 clear hK K
                 refine zq_ (some 36) (h := ?_)
                 exact zj_ (hJ1_3_4 (v266, .slice Ao34 y268.length co34, v272, v275) _ ⟨hHeld, (zr_ (Kd.R_mono HO260.out (fun _ hk => hk.2))), (by (with_reducible repeat (first | apply Kd.V_alloc | apply Kd.V_drewN | apply Kd.V_drew)); exact Kd.V_mono HO263.out (fun _ hk => ⟨hk.1.1, ⟨hk.1.2.1, ⟨hk.2, hk.1.2.2⟩⟩⟩)), (zr_ HO270.out), (zr_ (Kd.R_mono HO273.out (fun _ hk => hk.2))), (by (with_reducible repeat (first | apply Kd.V_alloc | apply Kd.V_drewN | apply Kd.V_drew)); exact Kd.V_mono HO276.out (fun _ hk => ⟨hk.2.1, ⟨hk.1, hk.2.2⟩⟩)), (zb_ BK264), (zw1_ HB GE264)⟩)
                ·skip
                 refine box_step ?hg (N := 8) ?hd (cs := #[.slice none 0 0, .slice none 0 0]) (t := 25) ?hr ?_; (case hd => rfl); (case hg => rfl); (case hr => first | (go_simp; done) | (go_simp; rfl))
                 intro gb284 hg w34 hbox hb
                 replace HO260 := Aside0.mk (Kd.R_below (zr_ HO260.out) hb)
                 replace HO263 := Aside0.mk (Kd.V_below (Kd.V_elderB (by (with_reducible repeat (first | apply Kd.V_alloc | apply Kd.V_drewN | apply Kd.V_drew)); exact HO263.out) gb284 (Nat.le_of_eq hg.symm)) hb)
                 replace HO270 := Aside0.mk (Kd.R_below (zr_ HO270.out) hb)
                 have BK284 := Aside0.mk (hbox)
                 have GW284 := Aside0.mk (zs_ hg (zw1_ HB GE264))
                 have GE284 := Aside0.mk (zs_ hg (zw1_ HB GE264))
                 replace HB := Aside0.mk (below_step (zw1_ HB GE264) hb)
                 have NB264_284 := Aside0.mk (zn_ hg BK264)
                 have NB284_264 := Aside0.mk (zm_ hg BK264)
                 replace BK264 := Aside0.mk (zl_ BK264 hb)
                 clear hb hbox hg
                 refine hK.out _ _ ⟨(blk_cell BK264.out 0).trans rfl, (blk_cell BK264.out 1).trans rfl⟩ (fun hHeld => ?_)
                 clear hK K
                 refine zq_ (some 8) (h := ?_)
                 exact zj_ (hJ1_3_10 (v266, v269, gb284) _ ⟨hHeld, (zr_ HO260.out), (by (with_reducible repeat (first | apply Kd.V_alloc | apply Kd.V_drewN | apply Kd.V_drew)); exact Kd.V_mono HO263.out (fun _ hk => ⟨hk.1.1, ⟨hk.1.2.1, ⟨hk.1.2.2, hk.2⟩⟩⟩)), (zr_ HO270.out), (zb_ BK264), (zb_ BK284), GW284.out, GE284.out, NB264_284.out, NB284_264.out, (zw2_ HB GE264 GE284)⟩)
              ·skip
               rintro ⟨v266, v269, gb284⟩ w34 ⟨hS_, h0_, h1_, h2_, h3_, h4_, h5_, h6_, h7_, h8_, h9_⟩
               (try dsimp only at h0_ h1_ h2_ h3_ h4_ h5_ h6_ h7_ h8_ h9_)
               clear HO260 HO263 BK264 HB
               have HO260 := Aside0.mk h0_
               have HO263 := Aside0.mk h1_
               have HO270 := Aside0.mk h2_
               have BK264 := Aside0.mk h3_
               have BK284 := Aside0.mk h4_
               have GW284 := Aside0.mk h5_
               have GE284 := Aside0.mk h6_
               have NB264_284 := Aside0.mk h7_
               have NB284_264 := Aside0.mk h8_
               have HB := Aside0.mk h9_
               clear h0_ h1_ h2_ h3_ h4_ h5_ h6_ h7_ h8_ h9_
               have hHeld : w34.cell? ⟨gb264, 0, none⟩ = some (.slice Ao25 t258.length co25) ∧ w34.cell? ⟨gb264, 1, none⟩ = some (.slice Ao27 t261.length co27) := hS_
               obtain ⟨Ao35, co35, eo35⟩ := Kd.R_slice HO270.out
               (first | subst eo35 | (injection eo35 with f1_ f2_ f3_; have f4_ := f1_.symm; have f5_ := f3_.symm; clear f1_ f2_ f3_; subst f4_; subst f5_))
               refine zi_ (h := ?_)
               refine one_ (i := 4) (N := some 36) #[true, true, true, true, true, true, false, false, false, false, true, false, false] rfl rfl (one_of HT_.out (by kernel_rfl)) (by decide) (fun K hK => ?_)
               refine goes_ Try.func17 (by kernel_rfl) rfl #[.int .i64 1, .slice Ao35 y268.length co35] (by rfl) rfl rfl (by (try simp only [List.map_toArray, List.map_cons, List.map_nil]); first | done | rfl | (simp only [List.length_drop, List.length_take]; rfl)) ?_
               with_reducible refine (carousellaw8_rows.calls 1 (fun k_ => some k_ = (.slice Ao35 y268.length co35 : Value).ownBlock) _ _ y268 t271 t274 _ ?side1 A13.out).mono ?_
               (case side1 => exact Kd.R_V (Kd.R_tight rfl (Kd.R_types (Kd.R_types (Kd.R_apart' (HO270.out) (Kd.R_typed HO260.out) (by decide)) BK264.out (by decide)) BK284.out (by decide))))
               rintro e w36 ⟨v272, v275, rfl, ho0, ho1, hb⟩
               refine ⟨_, rfl, ?_⟩
               replace HO263 := Aside0.mk (Kd.V_elder' (by (with_reducible repeat (first | apply Kd.V_alloc | apply Kd.V_drewN | apply Kd.V_drew)); exact HO263.out) (Kd.R_base ho0) hb)
               have HO273 := Aside0.mk (Kd.R_lower (Kd.R_new' (Kd.R_mono (ok' := fun k_ => True) ho0 (fun _ hk_ => trivial)) (Kd.R_lt (zr_ HO260.out))) (below_size (zw2_ HB GE264 GE284)))
               have HO276 := Aside0.mk (Kd.V_lower (Kd.V_mono (ok' := fun k_ => some k_ ≠ (v272 : Value).ownBlock ∧ some k_ ≠ (.slice Ao25 t258.length co25 : Value).ownBlock ∧ k_ ≠ gb264 ∧ k_ ≠ gb284) ho1 (fun k_ hk_ => ⟨hk_.2, Or.elim hk_.1 (fun hs_ => ((Kd.R_types (Kd.R_types (Kd.R_apart' (HO270.out) (Kd.R_typed HO260.out) (by decide)) BK264.out (by decide)) BK284.out (by decide)).1 k_ hs_.symm).1.1.2) (fun hn_ => (Kd.fresh' (Kd.R_lt (zr_ HO260.out)) k_ hn_)), Or.elim hk_.1 (fun hs_ => ((Kd.R_types (Kd.R_types (Kd.R_apart' (HO270.out) (Kd.R_typed HO260.out) (by decide)) BK264.out (by decide)) BK284.out (by decide)).1 k_ hs_.symm).1.2) (fun hn_ => (Kd.freshB (g := gb264) (o := .cells #[.slice Ao25 t258.length co25, .slice Ao27 t261.length co27] 25 (0, 0)) (zb_ BK264) k_ hn_)), Or.elim hk_.1 (fun hs_ => ((Kd.R_types (Kd.R_types (Kd.R_apart' (HO270.out) (Kd.R_typed HO260.out) (by decide)) BK264.out (by decide)) BK284.out (by decide)).1 k_ hs_.symm).2) (fun hn_ => (Kd.freshB (g := gb284) (o := .cells #[.slice none 0 0, .slice none 0 0] 25 (0, 0)) (zb_ BK284) k_ hn_))⟩)) (below_size (zw2_ HB GE264 GE284)))
               replace HO260 := Aside0.mk (Kd.R_elder' (zr_ HO260.out) (Kd.R_base ho0) hb)
               replace HO270 := Aside0.mk (Kd.R_below (zr_ HO270.out) hb)
               replace BK264 := Aside0.mk (zl_ BK264 hb)
               replace BK284 := Aside0.mk (zl_ BK284 hb)
               replace HB := Aside0.mk (below_step (zw2_ HB GE264 GE284) hb)
               (try clear hb)
               (try clear hb2)
               (try clear hk)
               (try clear hi)
               (try clear ho0)
               (try clear ho1)
               refine hK.out _ _ ⟨(blk_cell BK264.out 0).trans rfl, (blk_cell BK264.out 1).trans rfl⟩ (fun hHeld => ?_)
               clear hK K
               refine zq_ (some 36) (h := ?_)
               exact zj_ (hJ1_3_4_10 (v266, .slice Ao35 y268.length co35, v272, v275, gb284) _ ⟨hHeld, (zr_ (Kd.R_mono HO260.out (fun _ hk => hk.2))), (by (with_reducible repeat (first | apply Kd.V_alloc | apply Kd.V_drewN | apply Kd.V_drew)); exact Kd.V_mono HO263.out (fun _ hk => ⟨hk.1.1, ⟨hk.1.2.1, ⟨hk.2, ⟨hk.1.2.2.1, hk.1.2.2.2⟩⟩⟩⟩)), (zr_ HO270.out), (zr_ (Kd.R_mono HO273.out (fun _ hk => hk.2))), (by (with_reducible repeat (first | apply Kd.V_alloc | apply Kd.V_drewN | apply Kd.V_drew)); exact Kd.V_mono HO276.out (fun _ hk => ⟨hk.2.1, ⟨hk.1, ⟨hk.2.2.1, hk.2.2.2⟩⟩⟩)), (zb_ BK264), (zb_ BK284), GW284.out, GE284.out, NB264_284.out, NB284_264.out, (zw2_ HB GE264 GE284)⟩)
             ·skip
              rintro ⟨v266, v269, v272, v275⟩ w35 ⟨hS_, h0_, h1_, h2_, h3_, h4_, h5_, h6_⟩
              (try dsimp only at h0_ h1_ h2_ h3_ h4_ h5_ h6_)
              clear HO260 HO263 BK264 HB
              have HO260 := Aside0.mk h0_
              have HO263 := Aside0.mk h1_
              have HO270 := Aside0.mk h2_
              have HO273 := Aside0.mk h3_
              have HO276 := Aside0.mk h4_
              have BK264 := Aside0.mk h5_
              have HB := Aside0.mk h6_
              clear h0_ h1_ h2_ h3_ h4_ h5_ h6_
              have hHeld : w35.cell? ⟨gb264, 0, none⟩ = some (.slice Ao25 t258.length co25) ∧ w35.cell? ⟨gb264, 1, none⟩ = some (.slice Ao27 t261.length co27) := hS_
              obtain ⟨Ao36, co36, eo36⟩ := Kd.R_slice HO273.out
              (first | subst eo36 | (injection eo36 with f1_ f2_ f3_; have f4_ := f1_.symm; have f5_ := f3_.symm; clear f1_ f2_ f3_; subst f4_; subst f5_))
              obtain ⟨Ao37, co37, eo37⟩ := Kd.V_slice HO276.out
              (first | subst eo37 | (injection eo37 with f1_ f2_ f3_; have f4_ := f1_.symm; have f5_ := f3_.symm; clear f1_ f2_ f3_; subst f4_; subst f5_))
              refine zi_ (h := ?_)
              refine two_ (i := 6) (j := 10) (Ni := some 38) (Nj := some 8) #[true, true, true, true, true, true, true, false, false, false, false, false, false] #[true, true, true, true, true, true, false, false, false, false, true, false, false] rfl rfl rfl rfl (two_of HT_.out (by kernel_rfl)) (by decide) (by decide) (fun K hK => ?_) (fun K hK => ?_)
              ·skip
               refine goes_ Try.func13 (by kernel_rfl) rfl #[.agg #[.slice Ao36 t271.length co36, .slice Ao37 t274.length co37], .agg #[.slice Ao25 t258.length co25, .slice Ao27 t261.length co27], .int .i64 1] (by rfl) rfl rfl (by (try simp only [List.map_toArray, List.map_cons, List.map_nil]); first | done | rfl | (simp only [List.length_drop, List.length_take]; rfl)) ?_
               with_reducible refine (conv_Row.calls kj5 _ _ t271 _ _ t274 _ _ t258 _ _ t261 1 t277 t280 t283 _ ?side1 ?side2 ?side3 ?side4 ?side5 ?side6 ?side7 ?side8 A14.out).mono ?_
               (case side1 => exact zk_ ((Kd.R_reads' HO273.out).2.2))
               (case side2 => exact (Kd.R_reads' HO273.out).2.1)
               (case side3 => repeat (first | exact (Kd.V_reads' HO276.out).2.2 | (with_reducible refine Kd.C_alloc ?_ _) | (with_reducible refine Kd.C_drewN ?_ _) | (with_reducible refine Kd.C_drew ?_)))
               (case side4 => exact (Kd.V_reads' HO276.out).2.1)
               (case side5 => exact zk_ ((Kd.R_reads' HO260.out).2.2))
               (case side6 => exact (Kd.R_reads' HO260.out).2.1)
               (case side7 => repeat (first | exact (Kd.V_reads' HO263.out).2.2 | (with_reducible refine Kd.C_alloc ?_ _) | (with_reducible refine Kd.C_drewN ?_ _) | (with_reducible refine Kd.C_drew ?_)))
               (case side8 => exact (Kd.V_reads' HO263.out).2.1)
               rintro e w38 ⟨v278, v281, rfl, ho0, ho1, hb⟩
               refine ⟨_, rfl, ?_⟩
               replace HO263 := Aside0.mk (Kd.V_mono (Kd.V_told (Kd.V_told (Kd.V_old (by (with_reducible repeat (first | apply Kd.V_alloc | apply Kd.V_drewN | apply Kd.V_drew)); exact HO263.out) hb) (Kd.R_base ho0)) (Kd.R_base ho1)) (fun _ h_ => h_.1))
               replace HO276 := Aside0.mk (Kd.V_mono (Kd.V_told (Kd.V_told (Kd.V_old (by (with_reducible repeat (first | apply Kd.V_alloc | apply Kd.V_drewN | apply Kd.V_drew)); exact HO276.out) hb) (Kd.R_base ho0)) (Kd.R_base ho1)) (fun _ h_ => h_.1))
               have HO279 := Aside0.mk (Kd.R_lower (Kd.R_new' (Kd.R_new' ho0 (Kd.R_lt (zr_ HO260.out))) (Kd.R_lt (zr_ HO273.out))) (below_size (zw1_ HB GE264)))
               replace HO260 := Aside0.mk (Kd.R_elder' (zr_ HO260.out) (Kd.R_base ho0) hb)
               replace HO273 := Aside0.mk (Kd.R_elder' (zr_ HO273.out) (Kd.R_base ho0) hb)
               have HO282 := Aside0.mk (Kd.R_lower (Kd.R_new' ho1 (Kd.R_lt (zr_ HO270.out))) (below_size (zw1_ HB GE264)))
               replace HO270 := Aside0.mk (Kd.R_elder' (zr_ HO270.out) (Kd.R_base ho1) hb)
               replace BK264 := Aside0.mk (zl_ BK264 hb)
               replace HB := Aside0.mk (below_step (zw1_ HB GE264) hb)
               (try clear hb)
               (try clear hb2)
               (try clear hk)
               (try clear hi)
               (try clear ho0)
               (try clear ho1)
               refine hK.out _ _ ⟨(blk_cell BK264.out 0).trans rfl, (blk_cell BK264.out 1).trans rfl⟩ (fun hHeld => ?_)
               clear hK K
               refine zq_ (some 38) (h := ?_)
               refine zp_ 7 (some 31) (h := ?_)
               refine zp_ 8 (some 39) (h := ?_)
               refine zp_ 9 (some 40) (h := ?_)
               exact zj_ (hJ1_3_4_6 (v266, v269, .slice Ao36 t271.length co36, .slice Ao37 t274.length co37, v278, v281) _ ⟨hHeld, (zr_ HO260.out), (by (with_reducible repeat (first | apply Kd.V_alloc | apply Kd.V_drewN | apply Kd.V_drew)); exact Kd.V_mono HO263.out (fun _ hk => ⟨hk.1.1.1, ⟨hk.1.1.2.1, ⟨hk.1.1.2.2.1, ⟨hk.1.2, ⟨hk.2, hk.1.1.2.2.2⟩⟩⟩⟩⟩)), (zr_ (Kd.R_mono HO270.out (fun _ hk => hk.2))), (zr_ HO273.out), (by (with_reducible repeat (first | apply Kd.V_alloc | apply Kd.V_drewN | apply Kd.V_drew)); exact Kd.V_mono HO276.out (fun _ hk => ⟨hk.1.1.1, ⟨hk.1.1.2.1, ⟨hk.1.2, ⟨hk.2, hk.1.1.2.2⟩⟩⟩⟩)), (zr_ (Kd.R_mono HO279.out (fun _ hk => ⟨hk.1.2, hk.2⟩))), (zr_ (Kd.R_mono HO282.out (fun _ hk => hk.2))), (zb_ BK264), (zw1_ HB GE264)⟩)
              ·skip
               refine box_step ?hg (N := 8) ?hd (cs := #[.slice none 0 0, .slice none 0 0]) (t := 25) ?hr ?_; (case hd => rfl); (case hg => rfl); (case hr => first | (go_simp; done) | (go_simp; rfl))
               intro gb284 hg w36 hbox hb
               replace HO260 := Aside0.mk (Kd.R_below (zr_ HO260.out) hb)
               replace HO263 := Aside0.mk (Kd.V_below (Kd.V_elderB (by (with_reducible repeat (first | apply Kd.V_alloc | apply Kd.V_drewN | apply Kd.V_drew)); exact HO263.out) gb284 (Nat.le_of_eq hg.symm)) hb)
               replace HO270 := Aside0.mk (Kd.R_below (zr_ HO270.out) hb)
               replace HO273 := Aside0.mk (Kd.R_below (zr_ HO273.out) hb)
               replace HO276 := Aside0.mk (Kd.V_below (Kd.V_elderB (by (with_reducible repeat (first | apply Kd.V_alloc | apply Kd.V_drewN | apply Kd.V_drew)); exact HO276.out) gb284 (Nat.le_of_eq hg.symm)) hb)
               have BK284 := Aside0.mk (hbox)
               have GW284 := Aside0.mk (zs_ hg (zw1_ HB GE264))
               have GE284 := Aside0.mk (zs_ hg (zw1_ HB GE264))
               replace HB := Aside0.mk (below_step (zw1_ HB GE264) hb)
               have NB264_284 := Aside0.mk (zn_ hg BK264)
               have NB284_264 := Aside0.mk (zm_ hg BK264)
               replace BK264 := Aside0.mk (zl_ BK264 hb)
               clear hb hbox hg
               refine hK.out _ _ ⟨(blk_cell BK264.out 0).trans rfl, (blk_cell BK264.out 1).trans rfl⟩ (fun hHeld => ?_)
               clear hK K
               refine zq_ (some 8) (h := ?_)
               exact zj_ (hJ1_3_4_10 (v266, v269, v272, v275, gb284) _ ⟨hHeld, (zr_ HO260.out), (by (with_reducible repeat (first | apply Kd.V_alloc | apply Kd.V_drewN | apply Kd.V_drew)); exact Kd.V_mono HO263.out (fun _ hk => ⟨hk.1.1, ⟨hk.1.2.1, ⟨hk.1.2.2.1, ⟨hk.1.2.2.2, hk.2⟩⟩⟩⟩)), (zr_ HO270.out), (zr_ HO273.out), (by (with_reducible repeat (first | apply Kd.V_alloc | apply Kd.V_drewN | apply Kd.V_drew)); exact Kd.V_mono HO276.out (fun _ hk => ⟨hk.1.1, ⟨hk.1.2.1, ⟨hk.1.2.2, hk.2⟩⟩⟩)), (zb_ BK264), (zb_ BK284), GW284.out, GE284.out, NB264_284.out, NB284_264.out, (zw2_ HB GE264 GE284)⟩)
            ·skip
             rintro ⟨v266, v269, v272, v275, gb284⟩ w36 ⟨hS_, h0_, h1_, h2_, h3_, h4_, h5_, h6_, h7_, h8_, h9_, h10_, h11_⟩
             (try dsimp only at h0_ h1_ h2_ h3_ h4_ h5_ h6_ h7_ h8_ h9_ h10_ h11_)
             clear HO260 HO263 BK264 HB
             have HO260 := Aside0.mk h0_
             have HO263 := Aside0.mk h1_
             have HO270 := Aside0.mk h2_
             have HO273 := Aside0.mk h3_
             have HO276 := Aside0.mk h4_
             have BK264 := Aside0.mk h5_
             have BK284 := Aside0.mk h6_
             have GW284 := Aside0.mk h7_
             have GE284 := Aside0.mk h8_
             have NB264_284 := Aside0.mk h9_
             have NB284_264 := Aside0.mk h10_
             have HB := Aside0.mk h11_
             clear h0_ h1_ h2_ h3_ h4_ h5_ h6_ h7_ h8_ h9_ h10_ h11_
             have hHeld : w36.cell? ⟨gb264, 0, none⟩ = some (.slice Ao25 t258.length co25) ∧ w36.cell? ⟨gb264, 1, none⟩ = some (.slice Ao27 t261.length co27) := hS_
             obtain ⟨Ao37, co37, eo37⟩ := Kd.R_slice HO273.out
             (first | subst eo37 | (injection eo37 with f1_ f2_ f3_; have f4_ := f1_.symm; have f5_ := f3_.symm; clear f1_ f2_ f3_; subst f4_; subst f5_))
             obtain ⟨Ao38, co38, eo38⟩ := Kd.V_slice HO276.out
             (first | subst eo38 | (injection eo38 with f1_ f2_ f3_; have f4_ := f1_.symm; have f5_ := f3_.symm; clear f1_ f2_ f3_; subst f4_; subst f5_))
             refine zi_ (h := ?_)
             refine one_ (i := 6) (N := some 38) #[true, true, true, true, true, true, true, false, false, false, true, false, false] rfl rfl (one_of HT_.out (by kernel_rfl)) (by decide) (fun K hK => ?_)
             refine goes_ Try.func13 (by kernel_rfl) rfl #[.agg #[.slice Ao37 t271.length co37, .slice Ao38 t274.length co38], .agg #[.slice Ao25 t258.length co25, .slice Ao27 t261.length co27], .int .i64 1] (by rfl) rfl rfl (by (try simp only [List.map_toArray, List.map_cons, List.map_nil]); first | done | rfl | (simp only [List.length_drop, List.length_take]; rfl)) ?_
             with_reducible refine (conv_Row.calls kj5 _ _ t271 _ _ t274 _ _ t258 _ _ t261 1 t277 t280 t283 _ ?side1 ?side2 ?side3 ?side4 ?side5 ?side6 ?side7 ?side8 A14.out).mono ?_
             (case side1 => exact zk_ ((Kd.R_reads' HO273.out).2.2))
             (case side2 => exact (Kd.R_reads' HO273.out).2.1)
             (case side3 => repeat (first | exact (Kd.V_reads' HO276.out).2.2 | (with_reducible refine Kd.C_alloc ?_ _) | (with_reducible refine Kd.C_drewN ?_ _) | (with_reducible refine Kd.C_drew ?_)))
             (case side4 => exact (Kd.V_reads' HO276.out).2.1)
             (case side5 => exact zk_ ((Kd.R_reads' HO260.out).2.2))
             (case side6 => exact (Kd.R_reads' HO260.out).2.1)
             (case side7 => repeat (first | exact (Kd.V_reads' HO263.out).2.2 | (with_reducible refine Kd.C_alloc ?_ _) | (with_reducible refine Kd.C_drewN ?_ _) | (with_reducible refine Kd.C_drew ?_)))
             (case side8 => exact (Kd.V_reads' HO263.out).2.1)
             rintro e w39 ⟨v278, v281, rfl, ho0, ho1, hb⟩
             refine ⟨_, rfl, ?_⟩
             replace HO263 := Aside0.mk (Kd.V_mono (Kd.V_told (Kd.V_told (Kd.V_old (by (with_reducible repeat (first | apply Kd.V_alloc | apply Kd.V_drewN | apply Kd.V_drew)); exact HO263.out) hb) (Kd.R_base ho0)) (Kd.R_base ho1)) (fun _ h_ => h_.1))
             replace HO276 := Aside0.mk (Kd.V_mono (Kd.V_told (Kd.V_told (Kd.V_old (by (with_reducible repeat (first | apply Kd.V_alloc | apply Kd.V_drewN | apply Kd.V_drew)); exact HO276.out) hb) (Kd.R_base ho0)) (Kd.R_base ho1)) (fun _ h_ => h_.1))
             have HO279 := Aside0.mk (Kd.R_lower (Kd.R_new' (Kd.R_new' ho0 (Kd.R_lt (zr_ HO260.out))) (Kd.R_lt (zr_ HO273.out))) (below_size (zw2_ HB GE264 GE284)))
             replace HO260 := Aside0.mk (Kd.R_elder' (zr_ HO260.out) (Kd.R_base ho0) hb)
             replace HO273 := Aside0.mk (Kd.R_elder' (zr_ HO273.out) (Kd.R_base ho0) hb)
             have HO282 := Aside0.mk (Kd.R_lower (Kd.R_new' ho1 (Kd.R_lt (zr_ HO270.out))) (below_size (zw2_ HB GE264 GE284)))
             replace HO270 := Aside0.mk (Kd.R_elder' (zr_ HO270.out) (Kd.R_base ho1) hb)
             replace BK264 := Aside0.mk (zl_ BK264 hb)
             replace BK284 := Aside0.mk (zl_ BK284 hb)
             replace HB := Aside0.mk (below_step (zw2_ HB GE264 GE284) hb)
             (try clear hb)
             (try clear hb2)
             (try clear hk)
             (try clear hi)
             (try clear ho0)
             (try clear ho1)
             refine hK.out _ _ ⟨(blk_cell BK264.out 0).trans rfl, (blk_cell BK264.out 1).trans rfl⟩ (fun hHeld => ?_)
             clear hK K
             refine zq_ (some 38) (h := ?_)
             refine zp_ 7 (some 31) (h := ?_)
             refine zp_ 8 (some 39) (h := ?_)
             refine zp_ 9 (some 40) (h := ?_)
             exact zj_ (hJ1_3_4_6_10 (v266, v269, .slice Ao37 t271.length co37, .slice Ao38 t274.length co38, v278, v281, gb284) _ ⟨hHeld, (zr_ HO260.out), (by (with_reducible repeat (first | apply Kd.V_alloc | apply Kd.V_drewN | apply Kd.V_drew)); exact Kd.V_mono HO263.out (fun _ hk => ⟨hk.1.1.1, ⟨hk.1.1.2.1, ⟨hk.1.1.2.2.1, ⟨hk.1.2, ⟨hk.2, ⟨hk.1.1.2.2.2.1, hk.1.1.2.2.2.2⟩⟩⟩⟩⟩⟩)), (zr_ (Kd.R_mono HO270.out (fun _ hk => hk.2))), (zr_ HO273.out), (by (with_reducible repeat (first | apply Kd.V_alloc | apply Kd.V_drewN | apply Kd.V_drew)); exact Kd.V_mono HO276.out (fun _ hk => ⟨hk.1.1.1, ⟨hk.1.1.2.1, ⟨hk.1.2, ⟨hk.2, ⟨hk.1.1.2.2.1, hk.1.1.2.2.2⟩⟩⟩⟩⟩)), (zr_ (Kd.R_mono HO279.out (fun _ hk => ⟨hk.1.2, hk.2⟩))), (zr_ (Kd.R_mono HO282.out (fun _ hk => hk.2))), (zb_ BK264), (zb_ BK284), GW284.out, GE284.out, NB264_284.out, NB284_264.out, (zw2_ HB GE264 GE284)⟩)
           ·skip
            rintro ⟨v266, v269, v272, v275, v278, v281⟩ w38 ⟨hS_, h0_, h1_, h2_, h3_, h4_, h5_, h6_, h7_, h8_⟩
            (try dsimp only at h0_ h1_ h2_ h3_ h4_ h5_ h6_ h7_ h8_)
            clear HO260 HO263 BK264 HB
            have HO260 := Aside0.mk h0_
            have HO263 := Aside0.mk h1_
            have HO270 := Aside0.mk h2_
            have HO273 := Aside0.mk h3_
            have HO276 := Aside0.mk h4_
            have HO279 := Aside0.mk h5_
            have HO282 := Aside0.mk h6_
            have BK264 := Aside0.mk h7_
            have HB := Aside0.mk h8_
            clear h0_ h1_ h2_ h3_ h4_ h5_ h6_ h7_ h8_
            have hHeld : w38.cell? ⟨gb264, 0, none⟩ = some (.slice Ao25 t258.length co25) ∧ w38.cell? ⟨gb264, 1, none⟩ = some (.slice Ao27 t261.length co27) := hS_
            refine zi_ (h := ?_)
            refine one_ (i := 10) (N := some 8) #[true, true, true, true, true, true, true, true, true, true, true, false, false] rfl rfl (one_of HT_.out (by kernel_rfl)) (by decide) (fun K hK => ?_)
            refine box_step ?hg (N := 8) ?hd (cs := #[.slice none 0 0, .slice none 0 0]) (t := 25) ?hr ?_; (case hd => rfl); (case hg => rfl); (case hr => first | (go_simp; done) | (go_simp; rfl))
            intro gb284 hg w39 hbox hb
            replace HO260 := Aside0.mk (Kd.R_below (zr_ HO260.out) hb)
            replace HO263 := Aside0.mk (Kd.V_below (Kd.V_elderB (by (with_reducible repeat (first | apply Kd.V_alloc | apply Kd.V_drewN | apply Kd.V_drew)); exact HO263.out) gb284 (Nat.le_of_eq hg.symm)) hb)
            replace HO270 := Aside0.mk (Kd.R_below (zr_ HO270.out) hb)
            replace HO273 := Aside0.mk (Kd.R_below (zr_ HO273.out) hb)
            replace HO276 := Aside0.mk (Kd.V_below (Kd.V_elderB (by (with_reducible repeat (first | apply Kd.V_alloc | apply Kd.V_drewN | apply Kd.V_drew)); exact HO276.out) gb284 (Nat.le_of_eq hg.symm)) hb)
            replace HO279 := Aside0.mk (Kd.R_below (zr_ HO279.out) hb)
            replace HO282 := Aside0.mk (Kd.R_below (zr_ HO282.out) hb)
            have BK284 := Aside0.mk (hbox)
            have GW284 := Aside0.mk (zs_ hg (zw1_ HB GE264))
            have GE284 := Aside0.mk (zs_ hg (zw1_ HB GE264))
            replace HB := Aside0.mk (below_step (zw1_ HB GE264) hb)
            have NB264_284 := Aside0.mk (zn_ hg BK264)
            have NB284_264 := Aside0.mk (zm_ hg BK264)
            replace BK264 := Aside0.mk (zl_ BK264 hb)
            clear hb hbox hg
            refine hK.out _ _ ⟨(blk_cell BK264.out 0).trans rfl, (blk_cell BK264.out 1).trans rfl⟩ (fun hHeld => ?_)
            clear hK K
            refine zq_ (some 8) (h := ?_)
            exact zj_ (hJ1_3_4_6_10 (v266, v269, v272, v275, v278, v281, gb284) _ ⟨hHeld, (zr_ HO260.out), (by (with_reducible repeat (first | apply Kd.V_alloc | apply Kd.V_drewN | apply Kd.V_drew)); exact Kd.V_mono HO263.out (fun _ hk => ⟨hk.1.1, ⟨hk.1.2.1, ⟨hk.1.2.2.1, ⟨hk.1.2.2.2.1, ⟨hk.1.2.2.2.2.1, ⟨hk.1.2.2.2.2.2, hk.2⟩⟩⟩⟩⟩⟩)), (zr_ HO270.out), (zr_ HO273.out), (by (with_reducible repeat (first | apply Kd.V_alloc | apply Kd.V_drewN | apply Kd.V_drew)); exact Kd.V_mono HO276.out (fun _ hk => ⟨hk.1.1, ⟨hk.1.2.1, ⟨hk.1.2.2.1, ⟨hk.1.2.2.2.1, ⟨hk.1.2.2.2.2, hk.2⟩⟩⟩⟩⟩)), (zr_ HO279.out), (zr_ HO282.out), (zb_ BK264), (zb_ BK284), GW284.out, GE284.out, NB264_284.out, NB284_264.out, (zw2_ HB GE264 GE284)⟩)
          rintro ⟨v266, v269, v272, v275, v278, v281, gb284⟩ w39 ⟨hS_, h0_, h1_, h2_, h3_, h4_, h5_, h6_, h7_, h8_, h9_, h10_, h11_, h12_, h13_⟩
          (try dsimp only at h0_ h1_ h2_ h3_ h4_ h5_ h6_ h7_ h8_ h9_ h10_ h11_ h12_ h13_)
          clear HO260 HO263 BK264 HB
          have HO260 := Aside0.mk h0_
          have HO263 := Aside0.mk h1_
          have HO270 := Aside0.mk h2_
          have HO273 := Aside0.mk h3_
          have HO276 := Aside0.mk h4_
          have HO279 := Aside0.mk h5_
          have HO282 := Aside0.mk h6_
          have BK264 := Aside0.mk h7_
          have BK284 := Aside0.mk h8_
          have GW284 := Aside0.mk h9_
          have GE284 := Aside0.mk h10_
          have NB264_284 := Aside0.mk h11_
          have NB284_264 := Aside0.mk h12_
          have HB := Aside0.mk h13_
          clear h0_ h1_ h2_ h3_ h4_ h5_ h6_ h7_ h8_ h9_ h10_ h11_ h12_ h13_
          have hHeld : w39.cell? ⟨gb264, 0, none⟩ = some (.slice Ao25 t258.length co25) ∧ w39.cell? ⟨gb264, 1, none⟩ = some (.slice Ao27 t261.length co27) := hS_
          obtain ⟨Ao40, co40, eo40⟩ := Kd.R_slice HO279.out
          (first | subst eo40 | (injection eo40 with f1_ f2_ f3_; have f4_ := f1_.symm; have f5_ := f3_.symm; clear f1_ f2_ f3_; subst f4_; subst f5_))
          obtain ⟨Ao42, co42, eo42⟩ := Kd.R_slice HO282.out
          (first | subst eo42 | (injection eo42 with f1_ f2_ f3_; have f4_ := f1_.symm; have f5_ := f3_.symm; clear f1_ f2_ f3_; subst f4_; subst f5_))
          refine zi_ (h := ?_)
          refine one_ (i := 11) (N := none) #[true, true, true, true, true, true, true, true, true, true, true, true, false] rfl rfl (one_of HT_.out (by kernel_rfl)) (by decide) (fun K hK => ?_)
          have hs41 := zx_ (v := .slice none 0 0) BK284 0
          have hfs41 := blk_frozen BK284.out 0
          have hns41_0 := NB264_284.out
          have hms41_0 := NB284_264.out
          have hs43 := zx_ (v := .slice none 0 0) BK284 1
          have hfs43 := blk_frozen BK284.out 1
          have hns43_0 := NB264_284.out
          have hms43_0 := NB284_264.out
          refine skip_ (w1 := ?_) (by rfl) rfl ?_ ?_
          rotate_left
          ·go_simp
           rfl
          refine hK.out _ _ ⟨((cell_far (p := ⟨gb284, _, none⟩) NB264_284.out _).trans (((cell_far (p := ⟨gb284, _, none⟩) NB264_284.out _).trans (hHeld.1)))), ((cell_far (p := ⟨gb284, _, none⟩) NB264_284.out _).trans (((cell_far (p := ⟨gb284, _, none⟩) NB264_284.out _).trans (hHeld.2))))⟩ (fun hHeld => ?_)
          clear hK K
          refine zp_ 12 (some 9) (h := ?_)
          refine done_ (done_of HT_.out (by kernel_rfl)) ?_
          try go_wp2
          have n0_ : Aside0 (Kd.R (Kd.int .i64) 3 ((w39.setCell ⟨gb284, 0, none⟩ (.slice Ao40 t277.length co40)).setCell ⟨gb284, 1, none⟩ (.slice Ao42 t280.length co42)) w.heap.size (fun k_ => some k_ ≠ (v272 : Value).ownBlock ∧ some k_ ≠ (.slice Ao40 t277.length co40 : Value).ownBlock) (.slice Ao25 t258.length co25) t258) := ⟨zr_ (Kd.R_mono (Kd.R_far (p := ⟨gb284, 1, none⟩) (Kd.R_far (p := ⟨gb284, 0, none⟩) (Kd.R_types HO260.out BK284.out (by decide)) (fun _ hk => hk.2) (.slice Ao40 t277.length co40)) (fun _ hk => hk.2) (.slice Ao42 t280.length co42)) (fun _ hk => ⟨hk.1.1, hk.1.2⟩))⟩
          have n1_ : Aside0 (Kd.V (Kd.int .i64) 33 ((w39.setCell ⟨gb284, 0, none⟩ (.slice Ao40 t277.length co40)).setCell ⟨gb284, 1, none⟩ (.slice Ao42 t280.length co42)) w.heap.size (fun k_ => some k_ ≠ (.slice Ao25 t258.length co25 : Value).ownBlock ∧ some k_ ≠ (v269 : Value).ownBlock ∧ some k_ ≠ (v272 : Value).ownBlock ∧ some k_ ≠ (.slice Ao40 t277.length co40 : Value).ownBlock ∧ some k_ ≠ (.slice Ao42 t280.length co42 : Value).ownBlock ∧ k_ ≠ gb264 ∧ k_ ≠ gb284) (.slice Ao27 t261.length co27) t261) := ⟨by (with_reducible repeat (first | apply Kd.V_alloc | apply Kd.V_drewN | apply Kd.V_drew)); exact Kd.V_mono (Kd.V_far (p := ⟨gb284, 1, none⟩) (Kd.V_far (p := ⟨gb284, 0, none⟩) (Kd.V_mono HO263.out (fun k_ hk => (⟨hk, hk.2.2.2.2.2.2⟩ : _ ∧ k_ ≠ gb284))) (fun _ hk => hk.2) (.slice Ao40 t277.length co40)) (fun _ hk => hk.2) (.slice Ao42 t280.length co42)) (fun _ hk => ⟨hk.1.1, ⟨hk.1.2.1, ⟨hk.1.2.2.1, ⟨hk.1.2.2.2.1, ⟨hk.1.2.2.2.2.1, ⟨hk.1.2.2.2.2.2.1, hk.1.2.2.2.2.2.2⟩⟩⟩⟩⟩⟩)⟩
          have n2_ : Aside0 (Kd.R (Kd.int .i64) 33 ((w39.setCell ⟨gb284, 0, none⟩ (.slice Ao40 t277.length co40)).setCell ⟨gb284, 1, none⟩ (.slice Ao42 t280.length co42)) w.heap.size (fun k_ => some k_ ≠ (.slice Ao42 t280.length co42 : Value).ownBlock) v269 y268) := ⟨zr_ (Kd.R_mono (Kd.R_far (p := ⟨gb284, 1, none⟩) (Kd.R_far (p := ⟨gb284, 0, none⟩) (Kd.R_types HO270.out BK284.out (by decide)) (fun _ hk => hk.2) (.slice Ao40 t277.length co40)) (fun _ hk => hk.2) (.slice Ao42 t280.length co42)) (fun _ hk => hk.1))⟩
          have n3_ : Aside0 (Kd.R (Kd.int .i64) 3 ((w39.setCell ⟨gb284, 0, none⟩ (.slice Ao40 t277.length co40)).setCell ⟨gb284, 1, none⟩ (.slice Ao42 t280.length co42)) w.heap.size (fun k_ => some k_ ≠ (.slice Ao25 t258.length co25 : Value).ownBlock ∧ some k_ ≠ (.slice Ao40 t277.length co40 : Value).ownBlock) v272 t271) := ⟨zr_ (Kd.R_mono (Kd.R_far (p := ⟨gb284, 1, none⟩) (Kd.R_far (p := ⟨gb284, 0, none⟩) (Kd.R_types HO273.out BK284.out (by decide)) (fun _ hk => hk.2) (.slice Ao40 t277.length co40)) (fun _ hk => hk.2) (.slice Ao42 t280.length co42)) (fun _ hk => ⟨hk.1.1, hk.1.2⟩))⟩
          have n4_ : Aside0 (Kd.V (Kd.int .i64) 33 ((w39.setCell ⟨gb284, 0, none⟩ (.slice Ao40 t277.length co40)).setCell ⟨gb284, 1, none⟩ (.slice Ao42 t280.length co42)) w.heap.size (fun k_ => some k_ ≠ (.slice Ao25 t258.length co25 : Value).ownBlock ∧ some k_ ≠ (v272 : Value).ownBlock ∧ some k_ ≠ (.slice Ao40 t277.length co40 : Value).ownBlock ∧ some k_ ≠ (.slice Ao42 t280.length co42 : Value).ownBlock ∧ k_ ≠ gb264 ∧ k_ ≠ gb284) v275 t274) := ⟨by (with_reducible repeat (first | apply Kd.V_alloc | apply Kd.V_drewN | apply Kd.V_drew)); exact Kd.V_mono (Kd.V_far (p := ⟨gb284, 1, none⟩) (Kd.V_far (p := ⟨gb284, 0, none⟩) (Kd.V_mono HO276.out (fun k_ hk => (⟨hk, hk.2.2.2.2.2⟩ : _ ∧ k_ ≠ gb284))) (fun _ hk => hk.2) (.slice Ao40 t277.length co40)) (fun _ hk => hk.2) (.slice Ao42 t280.length co42)) (fun _ hk => ⟨hk.1.1, ⟨hk.1.2.1, ⟨hk.1.2.2.1, ⟨hk.1.2.2.2.1, ⟨hk.1.2.2.2.2.1, hk.1.2.2.2.2.2⟩⟩⟩⟩⟩)⟩
          have n5_ : Aside0 (Kd.R (Kd.int .i64) 3 ((w39.setCell ⟨gb284, 0, none⟩ (.slice Ao40 t277.length co40)).setCell ⟨gb284, 1, none⟩ (.slice Ao42 t280.length co42)) w.heap.size (fun k_ => some k_ ≠ (.slice Ao25 t258.length co25 : Value).ownBlock ∧ some k_ ≠ (v272 : Value).ownBlock) (.slice Ao40 t277.length co40) t277) := ⟨zr_ (Kd.R_mono (Kd.R_far (p := ⟨gb284, 1, none⟩) (Kd.R_far (p := ⟨gb284, 0, none⟩) (Kd.R_types HO279.out BK284.out (by decide)) (fun _ hk => hk.2) (.slice Ao40 t277.length co40)) (fun _ hk => hk.2) (.slice Ao42 t280.length co42)) (fun _ hk => ⟨hk.1.1, hk.1.2⟩))⟩
          have n6_ : Aside0 (Kd.R (Kd.int .i64) 33 ((w39.setCell ⟨gb284, 0, none⟩ (.slice Ao40 t277.length co40)).setCell ⟨gb284, 1, none⟩ (.slice Ao42 t280.length co42)) w.heap.size (fun k_ => some k_ ≠ (v269 : Value).ownBlock) (.slice Ao42 t280.length co42) t280) := ⟨zr_ (Kd.R_mono (Kd.R_far (p := ⟨gb284, 1, none⟩) (Kd.R_far (p := ⟨gb284, 0, none⟩) (Kd.R_types HO282.out BK284.out (by decide)) (fun _ hk => hk.2) (.slice Ao40 t277.length co40)) (fun _ hk => hk.2) (.slice Ao42 t280.length co42)) (fun _ hk => hk.1))⟩
          have n7_ : Aside0 (((w39.setCell ⟨gb284, 0, none⟩ (.slice Ao40 t277.length co40)).setCell ⟨gb284, 1, none⟩ (.slice Ao42 t280.length co42)).heap[gb264]? = some (.cells #[.slice Ao25 t258.length co25, .slice Ao27 t261.length co27] 25 (0, 0))) := ⟨by (with_reducible repeat (first | refine blk_drewN ?_ _ | refine blk_drew ?_ | refine blk_alloc ?_ _)); refine blk_far ?_ NB264_284.out _; (with_reducible repeat (first | refine blk_drewN ?_ _ | refine blk_drew ?_ | refine blk_alloc ?_ _)); refine blk_far ?_ NB264_284.out _; (with_reducible repeat (first | refine blk_drewN ?_ _ | refine blk_drew ?_ | refine blk_alloc ?_ _)); exact BK264.out⟩
          have n8_ : Aside0 (((w39.setCell ⟨gb284, 0, none⟩ (.slice Ao40 t277.length co40)).setCell ⟨gb284, 1, none⟩ (.slice Ao42 t280.length co42)).heap[gb284]? = some (.cells #[.slice Ao40 t277.length co40, .slice Ao42 t280.length co42] 25 (0, 0))) := ⟨by (with_reducible repeat (first | refine blk_drewN ?_ _ | refine blk_drew ?_ | refine blk_alloc ?_ _)); refine blk_put (cs := #[.slice Ao40 t277.length co40, .slice none 0 0]) ?_ 1 _ rfl; (with_reducible repeat (first | refine blk_drewN ?_ _ | refine blk_drew ?_ | refine blk_alloc ?_ _)); refine blk_put (cs := #[.slice none 0 0, .slice none 0 0]) ?_ 0 _ rfl; (with_reducible repeat (first | refine blk_drewN ?_ _ | refine blk_drew ?_ | refine blk_alloc ?_ _)); exact BK284.out⟩
          have n9_ : Aside0 (Below w.heap.size w ((w39.setCell ⟨gb284, 0, none⟩ (.slice Ao40 t277.length co40)).setCell ⟨gb284, 1, none⟩ (.slice Ao42 t280.length co42))) := ⟨zw2_ HB GE264 GE284⟩
          (try clear HO260)
          (try clear HO263)
          (try clear HO270)
          (try clear HO273)
          (try clear HO276)
          (try clear HO279)
          (try clear HO282)
          (try clear BK264)
          (try clear BK284)
          (try clear HB)
          generalize ((w39.setCell ⟨gb284, 0, none⟩ (.slice Ao40 t277.length co40)).setCell ⟨gb284, 1, none⟩ (.slice Ao42 t280.length co42)) = w44 at n0_ n1_ n2_ n3_ n4_ n5_ n6_ n7_ n8_ n9_ ⊢
          have HO260 := n0_
          have HO263 := n1_
          have HO270 := n2_
          have HO273 := n3_
          have HO276 := n4_
          have HO279 := n5_
          have HO282 := n6_
          have BK264 := n7_
          have BK284 := n8_
          have HB := n9_
          clear n0_ n1_ n2_ n3_ n4_ n5_ n6_ n7_ n8_ n9_
          replace HO260 := Aside0.mk (Kd.R_drew HO260.out)
          replace HO263 := Aside0.mk (Kd.V_drew HO263.out)
          replace HO270 := Aside0.mk (Kd.R_drew HO270.out)
          replace HO273 := Aside0.mk (Kd.R_drew HO273.out)
          replace HO276 := Aside0.mk (Kd.V_drew HO276.out)
          replace HO279 := Aside0.mk (Kd.R_drew HO279.out)
          replace HO282 := Aside0.mk (Kd.R_drew HO282.out)
          replace BK264 := Aside0.mk (blk_drew BK264.out)
          replace BK284 := Aside0.mk (blk_drew BK284.out)
          replace HB := Aside0.mk (below_drew1 HB.out)
          refine start_ (n := 10) (S := fun w' => w'.cell? ⟨gb264, 0, none⟩ = some (.slice Ao25 t258.length co25) ∧ w'.cell? ⟨gb264, 1, none⟩ = some (.slice Ao27 t261.length co27)) (ds := []) #[false, false, false, false, false, false, false, false, false, false] (by kernel_rfl) rfl rfl ⟨(blk_cell BK264.out 0).trans rfl, (blk_cell BK264.out 1).trans rfl⟩ (fun hHeld => ?_); refine with_tabW carousellaw8_ConvShifts.tab7 carousellaw8_ConvShifts.bits7 (fun HT_ HW_ => ?_)
          generalize w44.drew = w45 at HO260 HO263 HO270 HO273 HO276 HO279 HO282 BK264 BK284 HB hHeld ⊢
          refine zp_ 0 (some 42) (h := ?_)
          refine zt_ 2 (some 44) (hr := by rintro w' ⟨s0, s1⟩; go_simp; with_reducible rfl) (h := ?_)
          refine join_ (σ := Value × Value × Value × Value × Nat) 2 #[true, true, true, true, true, true, true, true, false, false] (fun s_ => [(43, .agg #[s_.1, s_.2.1]), (45, .tuple #[.agg #[s_.2.2.1, s_.2.2.2.1], .int .i64 t297]), (10, .pointer (some ⟨s_.2.2.2.2, 0, none⟩)), (41, .tuple #[.agg #[s_.2.2.1, s_.2.2.2.1], .int .i64 t297]), (46, .agg #[s_.2.2.1, s_.2.2.2.1]), (47, .int .i64 t297)]) (fun s_ w' => (w'.cell? ⟨gb264, 0, none⟩ = some (.slice Ao25 t258.length co25) ∧ w'.cell? ⟨gb264, 1, none⟩ = some (.slice Ao27 t261.length co27)) ∧ (Kd.R (Kd.int .i64) 3 w' w.heap.size (fun k_ => some k_ ≠ (v272 : Value).ownBlock ∧ some k_ ≠ (.slice Ao40 t277.length co40 : Value).ownBlock ∧ some k_ ≠ (s_.1 : Value).ownBlock ∧ some k_ ≠ (s_.2.2.1 : Value).ownBlock) (.slice Ao25 t258.length co25) t258) ∧ (Kd.V (Kd.int .i64) 33 w' w.heap.size (fun k_ => some k_ ≠ (.slice Ao25 t258.length co25 : Value).ownBlock ∧ some k_ ≠ (v269 : Value).ownBlock ∧ some k_ ≠ (v272 : Value).ownBlock ∧ some k_ ≠ (.slice Ao40 t277.length co40 : Value).ownBlock ∧ some k_ ≠ (.slice Ao42 t280.length co42 : Value).ownBlock ∧ some k_ ≠ (s_.1 : Value).ownBlock ∧ some k_ ≠ (s_.2.2.1 : Value).ownBlock ∧ some k_ ≠ (s_.2.2.2.1 : Value).ownBlock ∧ k_ ≠ gb264 ∧ k_ ≠ gb284 ∧ k_ ≠ s_.2.2.2.2) (.slice Ao27 t261.length co27) t261) ∧ (Kd.R (Kd.int .i64) 33 w' w.heap.size (fun k_ => some k_ ≠ (.slice Ao42 t280.length co42 : Value).ownBlock ∧ some k_ ≠ (s_.2.2.2.1 : Value).ownBlock) v269 y268) ∧ (Kd.R (Kd.int .i64) 3 w' w.heap.size (fun k_ => some k_ ≠ (.slice Ao25 t258.length co25 : Value).ownBlock ∧ some k_ ≠ (.slice Ao40 t277.length co40 : Value).ownBlock ∧ some k_ ≠ (s_.1 : Value).ownBlock ∧ some k_ ≠ (s_.2.2.1 : Value).ownBlock) v272 t271) ∧ (Kd.V (Kd.int .i64) 33 w' w.heap.size (fun k_ => some k_ ≠ (.slice Ao25 t258.length co25 : Value).ownBlock ∧ some k_ ≠ (v272 : Value).ownBlock ∧ some k_ ≠ (.slice Ao40 t277.length co40 : Value).ownBlock ∧ some k_ ≠ (.slice Ao42 t280.length co42 : Value).ownBlock ∧ some k_ ≠ (s_.1 : Value).ownBlock ∧ some k_ ≠ (s_.2.2.1 : Value).ownBlock ∧ some k_ ≠ (s_.2.2.2.1 : Value).ownBlock ∧ k_ ≠ gb264 ∧ k_ ≠ gb284 ∧ k_ ≠ s_.2.2.2.2) v275 t274) ∧ (Kd.R (Kd.int .i64) 3 w' w.heap.size (fun k_ => some k_ ≠ (.slice Ao25 t258.length co25 : Value).ownBlock ∧ some k_ ≠ (v272 : Value).ownBlock ∧ some k_ ≠ (s_.1 : Value).ownBlock ∧ some k_ ≠ (s_.2.2.1 : Value).ownBlock) (.slice Ao40 t277.length co40) t277) ∧ (Kd.R (Kd.int .i64) 33 w' w.heap.size (fun k_ => some k_ ≠ (v269 : Value).ownBlock ∧ some k_ ≠ (s_.2.2.2.1 : Value).ownBlock) (.slice Ao42 t280.length co42) t280) ∧ (Kd.R (Kd.int .i64) 3 w' w.heap.size (fun k_ => some k_ ≠ (.slice Ao25 t258.length co25 : Value).ownBlock ∧ some k_ ≠ (v272 : Value).ownBlock ∧ some k_ ≠ (.slice Ao40 t277.length co40 : Value).ownBlock ∧ some k_ ≠ (s_.2.2.1 : Value).ownBlock) s_.1 t285) ∧ (Kd.V (Kd.int .i64) 33 w' w.heap.size (fun k_ => some k_ ≠ (.slice Ao25 t258.length co25 : Value).ownBlock ∧ some k_ ≠ (v269 : Value).ownBlock ∧ some k_ ≠ (v272 : Value).ownBlock ∧ some k_ ≠ (.slice Ao40 t277.length co40 : Value).ownBlock ∧ some k_ ≠ (.slice Ao42 t280.length co42 : Value).ownBlock ∧ some k_ ≠ (s_.1 : Value).ownBlock ∧ some k_ ≠ (s_.2.2.1 : Value).ownBlock ∧ some k_ ≠ (s_.2.2.2.1 : Value).ownBlock ∧ k_ ≠ gb264 ∧ k_ ≠ gb284 ∧ k_ ≠ s_.2.2.2.2) s_.2.1 t288) ∧ (Kd.R (Kd.int .i64) 3 w' w.heap.size (fun k_ => some k_ ≠ (.slice Ao25 t258.length co25 : Value).ownBlock ∧ some k_ ≠ (v272 : Value).ownBlock ∧ some k_ ≠ (.slice Ao40 t277.length co40 : Value).ownBlock ∧ some k_ ≠ (s_.1 : Value).ownBlock) s_.2.2.1 t291) ∧ (Kd.R (Kd.int .i64) 33 w' w.heap.size (fun k_ => some k_ ≠ (v269 : Value).ownBlock ∧ some k_ ≠ (.slice Ao42 t280.length co42 : Value).ownBlock) s_.2.2.2.1 t294) ∧ (w'.heap[gb264]? = some (.cells #[.slice Ao25 t258.length co25, .slice Ao27 t261.length co27] 25 (0, 0))) ∧ (w'.heap[gb284]? = some (.cells #[.slice Ao40 t277.length co40, .slice Ao42 t280.length co42] 25 (0, 0))) ∧ (w'.heap[s_.2.2.2.2]? = some (.cells #[.slice none 0 0, .slice none 0 0] 25 (0, 0))) ∧ (w.heap.size ≤ s_.2.2.2.2) ∧ (w.heap.size ≤ s_.2.2.2.2) ∧ (gb264 ≠ s_.2.2.2.2) ∧ (s_.2.2.2.2 ≠ gb264) ∧ (gb284 ≠ s_.2.2.2.2) ∧ (s_.2.2.2.2 ≠ gb284) ∧ (Below w.heap.size w w')) ?_ ?_
          rotate_left
          ·intro hCont
           refine two_ (i := 1) (j := 7) (Ni := some 43) (Nj := some 10) #[true, true, true, false, false, false, false, false, false, false] #[true, false, true, false, false, false, false, true, false, false] rfl rfl rfl rfl (two_of HT_.out (by kernel_rfl)) (by decide) (by decide) (fun K hK => ?_) (fun K hK => ?_)
           ·skip
            refine goes_ Try.func17 (by kernel_rfl) rfl #[.int .i64 1, .slice A1 l1.length c1] (by rfl) rfl rfl (by (try simp only [List.map_toArray, List.map_cons, List.map_nil]); first | done | rfl | (simp only [List.length_drop, List.length_take]; rfl)) ?_
            with_reducible refine (carousellaw8_rows.calls 1 (fun k_ => k_ < w.heap.size) _ _ l1 t285 t288 _ ?side1 A15.out).mono ?_
            (case side1 => exact Kd.V_mk HC1.out (Kd.F_below (Kd.C_F (Kd.heap_int .i64) HR1.out) (zw2_ HB GE264 GE284)))
            rintro e w46 ⟨v286, v289, rfl, ho0, ho1, hb⟩
            refine ⟨_, rfl, ?_⟩
            replace HO263 := Aside0.mk (Kd.V_elder' (by (with_reducible repeat (first | apply Kd.V_alloc | apply Kd.V_drewN | apply Kd.V_drew)); exact HO263.out) (Kd.R_base ho0) hb)
            replace HO276 := Aside0.mk (Kd.V_elder' (by (with_reducible repeat (first | apply Kd.V_alloc | apply Kd.V_drewN | apply Kd.V_drew)); exact HO276.out) (Kd.R_base ho0) hb)
            have HO287 := Aside0.mk (Kd.R_lower (Kd.R_new' (Kd.R_new' (Kd.R_new' (Kd.R_mono (ok' := fun k_ => True) ho0 (fun _ hk_ => trivial)) (Kd.R_lt (zr_ HO260.out))) (Kd.R_lt (zr_ HO273.out))) (Kd.R_lt (zr_ HO279.out))) (below_size (zw2_ HB GE264 GE284)))
            have HO290 := Aside0.mk (Kd.V_lower (Kd.V_mono (ok' := fun k_ => some k_ ≠ (v286 : Value).ownBlock ∧ some k_ ≠ (.slice Ao25 t258.length co25 : Value).ownBlock ∧ some k_ ≠ (v269 : Value).ownBlock ∧ some k_ ≠ (v272 : Value).ownBlock ∧ some k_ ≠ (.slice Ao40 t277.length co40 : Value).ownBlock ∧ some k_ ≠ (.slice Ao42 t280.length co42 : Value).ownBlock ∧ k_ ≠ gb264 ∧ k_ ≠ gb284) ho1 (fun k_ hk_ => ⟨hk_.2, Or.elim hk_.1 (fun hs_ => fun e_ => Nat.not_le.2 hs_ (Kd.R_base HO260.out k_ e_.symm)) (fun hn_ => (Kd.fresh' (Kd.R_lt (zr_ HO260.out)) k_ hn_)), Or.elim hk_.1 (fun hs_ => fun e_ => Nat.not_le.2 hs_ (Kd.R_base HO270.out k_ e_.symm)) (fun hn_ => (Kd.fresh' (Kd.R_lt (zr_ HO270.out)) k_ hn_)), Or.elim hk_.1 (fun hs_ => fun e_ => Nat.not_le.2 hs_ (Kd.R_base HO273.out k_ e_.symm)) (fun hn_ => (Kd.fresh' (Kd.R_lt (zr_ HO273.out)) k_ hn_)), Or.elim hk_.1 (fun hs_ => fun e_ => Nat.not_le.2 hs_ (Kd.R_base HO279.out k_ e_.symm)) (fun hn_ => (Kd.fresh' (Kd.R_lt (zr_ HO279.out)) k_ hn_)), Or.elim hk_.1 (fun hs_ => fun e_ => Nat.not_le.2 hs_ (Kd.R_base HO282.out k_ e_.symm)) (fun hn_ => (Kd.fresh' (Kd.R_lt (zr_ HO282.out)) k_ hn_)), Or.elim hk_.1 (fun hs_ => fun e_ => Nat.not_le.2 hs_ (by rw [e_]; exact GW264.out)) (fun hn_ => (Kd.freshB (g := gb264) (o := .cells #[.slice Ao25 t258.length co25, .slice Ao27 t261.length co27] 25 (0, 0)) (zb_ BK264) k_ hn_)), Or.elim hk_.1 (fun hs_ => fun e_ => Nat.not_le.2 hs_ (by rw [e_]; exact GW284.out)) (fun hn_ => (Kd.freshB (g := gb284) (o := .cells #[.slice Ao40 t277.length co40, .slice Ao42 t280.length co42] 25 (0, 0)) (zb_ BK284) k_ hn_))⟩)) (below_size (zw2_ HB GE264 GE284)))
            replace HO260 := Aside0.mk (Kd.R_elder' (zr_ HO260.out) (Kd.R_base ho0) hb)
            replace HO270 := Aside0.mk (Kd.R_below (zr_ HO270.out) hb)
            replace HO273 := Aside0.mk (Kd.R_elder' (zr_ HO273.out) (Kd.R_base ho0) hb)
            replace HO279 := Aside0.mk (Kd.R_elder' (zr_ HO279.out) (Kd.R_base ho0) hb)
            replace HO282 := Aside0.mk (Kd.R_below (zr_ HO282.out) hb)
            replace BK264 := Aside0.mk (zl_ BK264 hb)
            replace BK284 := Aside0.mk (zl_ BK284 hb)
            replace HB := Aside0.mk (below_step (zw2_ HB GE264 GE284) hb)
            (try clear hb)
            (try clear hb2)
            (try clear hk)
            (try clear hi)
            (try clear ho0)
            (try clear ho1)
            obtain ⟨Ao47, co47, eo47⟩ := Kd.R_slice HO287.out
            (first | subst eo47 | (injection eo47 with f1_ f2_ f3_; have f4_ := f1_.symm; have f5_ := f3_.symm; clear f1_ f2_ f3_; subst f4_; subst f5_))
            obtain ⟨Ao48, co48, eo48⟩ := Kd.V_slice HO290.out
            (first | subst eo48 | (injection eo48 with f1_ f2_ f3_; have f4_ := f1_.symm; have f5_ := f3_.symm; clear f1_ f2_ f3_; subst f4_; subst f5_))
            refine hK.out _ _ ⟨(blk_cell BK264.out 0).trans rfl, (blk_cell BK264.out 1).trans rfl⟩ (fun hHeld => ?_)
            clear hK K
            refine zq_ (some 43) (h := ?_)
            refine two_ (i := 3) (j := 7) (Ni := some 45) (Nj := some 10) #[true, true, true, true, false, false, false, false, false, false] #[true, true, true, false, false, false, false, true, false, false] rfl rfl rfl rfl (two_of HT_.out (by kernel_rfl)) (by decide) (by decide) (fun K hK => ?_) (fun K hK => ?_)
            ·skip
             refine goes_ Try.func13 (by kernel_rfl) rfl #[.agg #[.slice Ao47 t285.length co47, .slice Ao48 t288.length co48], .agg #[.slice Ao25 t258.length co25, .slice Ao27 t261.length co27], .int .i64 1] (by rfl) rfl rfl (by (try simp only [List.map_toArray, List.map_cons, List.map_nil]); first | done | rfl | (simp only [List.length_drop, List.length_take]; rfl)) ?_
             with_reducible refine (conv_Row.calls kj5 _ _ t285 _ _ t288 _ _ t258 _ _ t261 1 t291 t294 t297 _ ?side1 ?side2 ?side3 ?side4 ?side5 ?side6 ?side7 ?side8 A16.out).mono ?_
             (case side1 => exact zk_ ((Kd.R_reads' HO287.out).2.2))
             (case side2 => exact (Kd.R_reads' HO287.out).2.1)
             (case side3 => repeat (first | exact (Kd.V_reads' HO290.out).2.2 | (with_reducible refine Kd.C_alloc ?_ _) | (with_reducible refine Kd.C_drewN ?_ _) | (with_reducible refine Kd.C_drew ?_)))
             (case side4 => exact (Kd.V_reads' HO290.out).2.1)
             (case side5 => exact zk_ ((Kd.R_reads' HO260.out).2.2))
             (case side6 => exact (Kd.R_reads' HO260.out).2.1)
             (case side7 => repeat (first | exact (Kd.V_reads' HO263.out).2.2 | (with_reducible refine Kd.C_alloc ?_ _) | (with_reducible refine Kd.C_drewN ?_ _) | (with_reducible refine Kd.C_drew ?_)))
             (case side8 => exact (Kd.V_reads' HO263.out).2.1)
             rintro e w49 ⟨v292, v295, rfl, ho0, ho1, hb⟩
             refine ⟨_, rfl, ?_⟩
             replace HO263 := Aside0.mk (Kd.V_mono (Kd.V_told (Kd.V_told (Kd.V_old (by (with_reducible repeat (first | apply Kd.V_alloc | apply Kd.V_drewN | apply Kd.V_drew)); exact HO263.out) hb) (Kd.R_base ho0)) (Kd.R_base ho1)) (fun _ h_ => h_.1))
             replace HO276 := Aside0.mk (Kd.V_mono (Kd.V_told (Kd.V_told (Kd.V_old (by (with_reducible repeat (first | apply Kd.V_alloc | apply Kd.V_drewN | apply Kd.V_drew)); exact HO276.out) hb) (Kd.R_base ho0)) (Kd.R_base ho1)) (fun _ h_ => h_.1))
             replace HO290 := Aside0.mk (Kd.V_mono (Kd.V_told (Kd.V_told (Kd.V_old (by (with_reducible repeat (first | apply Kd.V_alloc | apply Kd.V_drewN | apply Kd.V_drew)); exact HO290.out) hb) (Kd.R_base ho0)) (Kd.R_base ho1)) (fun _ h_ => h_.1))
             have HO293 := Aside0.mk (Kd.R_lower (Kd.R_new' (Kd.R_new' (Kd.R_new' (Kd.R_new' ho0 (Kd.R_lt (zr_ HO260.out))) (Kd.R_lt (zr_ HO273.out))) (Kd.R_lt (zr_ HO279.out))) (Kd.R_lt (zr_ HO287.out))) (below_size (zw2_ HB GE264 GE284)))
             replace HO260 := Aside0.mk (Kd.R_elder' (zr_ HO260.out) (Kd.R_base ho0) hb)
             replace HO273 := Aside0.mk (Kd.R_elder' (zr_ HO273.out) (Kd.R_base ho0) hb)
             replace HO279 := Aside0.mk (Kd.R_elder' (zr_ HO279.out) (Kd.R_base ho0) hb)
             replace HO287 := Aside0.mk (Kd.R_elder' (zr_ HO287.out) (Kd.R_base ho0) hb)
             have HO296 := Aside0.mk (Kd.R_lower (Kd.R_new' (Kd.R_new' ho1 (Kd.R_lt (zr_ HO270.out))) (Kd.R_lt (zr_ HO282.out))) (below_size (zw2_ HB GE264 GE284)))
             replace HO270 := Aside0.mk (Kd.R_elder' (zr_ HO270.out) (Kd.R_base ho1) hb)
             replace HO282 := Aside0.mk (Kd.R_elder' (zr_ HO282.out) (Kd.R_base ho1) hb)
             replace BK264 := Aside0.mk (zl_ BK264 hb)
             replace BK284 := Aside0.mk (zl_ BK284 hb)
             replace HB := Aside0.mk (below_step (zw2_ HB GE264 GE284) hb)
             (try clear hb)
             (try clear hb2)
             (try clear hk)
             (try clear hi)
             (try clear ho0)
             (try clear ho1)
             refine hK.out _ _ ⟨(blk_cell BK264.out 0).trans rfl, (blk_cell BK264.out 1).trans rfl⟩ (fun hHeld => ?_)
             clear hK K
             refine zq_ (some 45) (h := ?_)
             refine zp_ 4 (some 41) (h := ?_)
             refine zp_ 5 (some 46) (h := ?_)
             refine zp_ 6 (some 47) (h := ?_)
             refine one_ (i := 7) (N := some 10) #[true, true, true, true, true, true, true, true, false, false] rfl rfl (one_of HT_.out (by kernel_rfl)) (by decide) (fun K hK => ?_)
             refine box_step ?hg (N := 10) ?hd (cs := #[.slice none 0 0, .slice none 0 0]) (t := 25) ?hr ?_; (case hd => rfl); (case hg => rfl); (case hr => first | (go_simp; done) | (go_simp; rfl))
             intro gb298 hg w50 hbox hb
             replace HO260 := Aside0.mk (Kd.R_below (zr_ HO260.out) hb)
             replace HO263 := Aside0.mk (Kd.V_below (Kd.V_elderB (by (with_reducible repeat (first | apply Kd.V_alloc | apply Kd.V_drewN | apply Kd.V_drew)); exact HO263.out) gb298 (Nat.le_of_eq hg.symm)) hb)
             replace HO270 := Aside0.mk (Kd.R_below (zr_ HO270.out) hb)
             replace HO273 := Aside0.mk (Kd.R_below (zr_ HO273.out) hb)
             replace HO276 := Aside0.mk (Kd.V_below (Kd.V_elderB (by (with_reducible repeat (first | apply Kd.V_alloc | apply Kd.V_drewN | apply Kd.V_drew)); exact HO276.out) gb298 (Nat.le_of_eq hg.symm)) hb)
             replace HO279 := Aside0.mk (Kd.R_below (zr_ HO279.out) hb)
             replace HO282 := Aside0.mk (Kd.R_below (zr_ HO282.out) hb)
             replace HO287 := Aside0.mk (Kd.R_below (zr_ HO287.out) hb)
             replace HO290 := Aside0.mk (Kd.V_below (Kd.V_elderB (by (with_reducible repeat (first | apply Kd.V_alloc | apply Kd.V_drewN | apply Kd.V_drew)); exact HO290.out) gb298 (Nat.le_of_eq hg.symm)) hb)
             replace HO293 := Aside0.mk (Kd.R_below (zr_ HO293.out) hb)
             replace HO296 := Aside0.mk (Kd.R_below (zr_ HO296.out) hb)
             have BK298 := Aside0.mk (hbox)
             have GW298 := Aside0.mk (zs_ hg (zw2_ HB GE264 GE284))
             have GE298 := Aside0.mk (zs_ hg (zw2_ HB GE264 GE284))
             replace HB := Aside0.mk (below_step (zw2_ HB GE264 GE284) hb)
             have NB264_298 := Aside0.mk (zn_ hg BK264)
             have NB298_264 := Aside0.mk (zm_ hg BK264)
             replace BK264 := Aside0.mk (zl_ BK264 hb)
             have NB284_298 := Aside0.mk (zn_ hg BK284)
             have NB298_284 := Aside0.mk (zm_ hg BK284)
             replace BK284 := Aside0.mk (zl_ BK284 hb)
             clear hb hbox hg
             refine hK.out _ _ ⟨(blk_cell BK264.out 0).trans rfl, (blk_cell BK264.out 1).trans rfl⟩ (fun hHeld => ?_)
             clear hK K
             refine zq_ (some 10) (h := ?_)
             exact norm_ (by simp only [putAll, Act.put, List.setIfInBounds_toArray, List.set_cons_zero, List.set_cons_succ]) (hCont (.slice Ao47 t285.length co47, .slice Ao48 t288.length co48, v292, v295, gb298) _ ⟨hHeld, (zr_ (Kd.R_mono HO260.out (fun _ hk => ⟨hk.1.1.1, ⟨hk.1.1.2, ⟨hk.1.2, hk.2⟩⟩⟩))), (by (with_reducible repeat (first | apply Kd.V_alloc | apply Kd.V_drewN | apply Kd.V_drew)); exact Kd.V_mono HO263.out (fun _ hk => ⟨hk.1.1.1.1.1, ⟨hk.1.1.1.1.2.1, ⟨hk.1.1.1.1.2.2.1, ⟨hk.1.1.1.1.2.2.2.1, ⟨hk.1.1.1.1.2.2.2.2.1, ⟨hk.1.1.1.2, ⟨hk.1.1.2, ⟨hk.1.2, ⟨hk.1.1.1.1.2.2.2.2.2.1, ⟨hk.1.1.1.1.2.2.2.2.2.2, hk.2⟩⟩⟩⟩⟩⟩⟩⟩⟩⟩)), (zr_ HO270.out), (zr_ (Kd.R_mono HO273.out (fun _ hk => ⟨hk.1.1.1, ⟨hk.1.1.2, ⟨hk.1.2, hk.2⟩⟩⟩))), (by (with_reducible repeat (first | apply Kd.V_alloc | apply Kd.V_drewN | apply Kd.V_drew)); exact Kd.V_mono HO276.out (fun _ hk => ⟨hk.1.1.1.1.1, ⟨hk.1.1.1.1.2.1, ⟨hk.1.1.1.1.2.2.1, ⟨hk.1.1.1.1.2.2.2.1, ⟨hk.1.1.1.2, ⟨hk.1.1.2, ⟨hk.1.2, ⟨hk.1.1.1.1.2.2.2.2.1, ⟨hk.1.1.1.1.2.2.2.2.2, hk.2⟩⟩⟩⟩⟩⟩⟩⟩⟩)), (zr_ (Kd.R_mono HO279.out (fun _ hk => ⟨hk.1.1.1, ⟨hk.1.1.2, ⟨hk.1.2, hk.2⟩⟩⟩))), (zr_ HO282.out), (zr_ (Kd.R_mono HO287.out (fun _ hk => ⟨hk.1.1.1.2, ⟨hk.1.1.2, ⟨hk.1.2, hk.2⟩⟩⟩))), (by (with_reducible repeat (first | apply Kd.V_alloc | apply Kd.V_drewN | apply Kd.V_drew)); exact Kd.V_mono HO290.out (fun _ hk => ⟨hk.1.1.1.2.1, ⟨hk.1.1.1.2.2.1, ⟨hk.1.1.1.2.2.2.1, ⟨hk.1.1.1.2.2.2.2.1, ⟨hk.1.1.1.2.2.2.2.2.1, ⟨hk.1.1.1.1, ⟨hk.1.1.2, ⟨hk.1.2, ⟨hk.1.1.1.2.2.2.2.2.2.1, ⟨hk.1.1.1.2.2.2.2.2.2.2, hk.2⟩⟩⟩⟩⟩⟩⟩⟩⟩⟩)), (zr_ (Kd.R_mono HO293.out (fun _ hk => ⟨hk.1.1.1.2, ⟨hk.1.1.2, ⟨hk.1.2, hk.2⟩⟩⟩))), (zr_ (Kd.R_mono HO296.out (fun _ hk => ⟨hk.1.2, hk.2⟩))), (zb_ BK264), (zb_ BK284), (zb_ BK298), GW298.out, GE298.out, NB264_298.out, NB298_264.out, NB284_298.out, NB298_284.out, (zw3_ HB GE264 GE284 GE298)⟩)
            ·skip
             refine box_step ?hg (N := 10) ?hd (cs := #[.slice none 0 0, .slice none 0 0]) (t := 25) ?hr ?_; (case hd => rfl); (case hg => rfl); (case hr => first | (go_simp; done) | (go_simp; rfl))
             intro gb298 hg w47 hbox hb
             replace HO260 := Aside0.mk (Kd.R_below (zr_ HO260.out) hb)
             replace HO263 := Aside0.mk (Kd.V_below (Kd.V_elderB (by (with_reducible repeat (first | apply Kd.V_alloc | apply Kd.V_drewN | apply Kd.V_drew)); exact HO263.out) gb298 (Nat.le_of_eq hg.symm)) hb)
             replace HO270 := Aside0.mk (Kd.R_below (zr_ HO270.out) hb)
             replace HO273 := Aside0.mk (Kd.R_below (zr_ HO273.out) hb)
             replace HO276 := Aside0.mk (Kd.V_below (Kd.V_elderB (by (with_reducible repeat (first | apply Kd.V_alloc | apply Kd.V_drewN | apply Kd.V_drew)); exact HO276.out) gb298 (Nat.le_of_eq hg.symm)) hb)
             replace HO279 := Aside0.mk (Kd.R_below (zr_ HO279.out) hb)
             replace HO282 := Aside0.mk (Kd.R_below (zr_ HO282.out) hb)
             replace HO287 := Aside0.mk (Kd.R_below (zr_ HO287.out) hb)
             replace HO290 := Aside0.mk (Kd.V_below (Kd.V_elderB (by (with_reducible repeat (first | apply Kd.V_alloc | apply Kd.V_drewN | apply Kd.V_drew)); exact HO290.out) gb298 (Nat.le_of_eq hg.symm)) hb)
             have BK298 := Aside0.mk (hbox)
             have GW298 := Aside0.mk (zs_ hg (zw2_ HB GE264 GE284))
             have GE298 := Aside0.mk (zs_ hg (zw2_ HB GE264 GE284))
             replace HB := Aside0.mk (below_step (zw2_ HB GE264 GE284) hb)
             have NB264_298 := Aside0.mk (zn_ hg BK264)
             have NB298_264 := Aside0.mk (zm_ hg BK264)
             replace BK264 := Aside0.mk (zl_ BK264 hb)
             have NB284_298 := Aside0.mk (zn_ hg BK284)
             have NB298_284 := Aside0.mk (zm_ hg BK284)
             replace BK284 := Aside0.mk (zl_ BK284 hb)
             clear hb hbox hg
             obtain ⟨Ao48, co48, eo48⟩ := Kd.R_slice HO287.out
             (first | subst eo48 | (injection eo48 with f1_ f2_ f3_; have f4_ := f1_.symm; have f5_ := f3_.symm; clear f1_ f2_ f3_; subst f4_; subst f5_))
             obtain ⟨Ao49, co49, eo49⟩ := Kd.V_slice HO290.out
             (first | subst eo49 | (injection eo49 with f1_ f2_ f3_; have f4_ := f1_.symm; have f5_ := f3_.symm; clear f1_ f2_ f3_; subst f4_; subst f5_))
             refine hK.out _ _ ⟨(blk_cell BK264.out 0).trans rfl, (blk_cell BK264.out 1).trans rfl⟩ (fun hHeld => ?_)
             clear hK K
             refine zq_ (some 10) (h := ?_)
             refine one_ (i := 3) (N := some 45) #[true, true, true, true, false, false, false, true, false, false] rfl rfl (one_of HT_.out (by kernel_rfl)) (by decide) (fun K hK => ?_)
             refine goes_ Try.func13 (by kernel_rfl) rfl #[.agg #[.slice Ao48 t285.length co48, .slice Ao49 t288.length co49], .agg #[.slice Ao25 t258.length co25, .slice Ao27 t261.length co27], .int .i64 1] (by rfl) rfl rfl (by (try simp only [List.map_toArray, List.map_cons, List.map_nil]); first | done | rfl | (simp only [List.length_drop, List.length_take]; rfl)) ?_
             with_reducible refine (conv_Row.calls kj5 _ _ t285 _ _ t288 _ _ t258 _ _ t261 1 t291 t294 t297 _ ?side1 ?side2 ?side3 ?side4 ?side5 ?side6 ?side7 ?side8 A16.out).mono ?_
             (case side1 => exact zk_ ((Kd.R_reads' HO287.out).2.2))
             (case side2 => exact (Kd.R_reads' HO287.out).2.1)
             (case side3 => repeat (first | exact (Kd.V_reads' HO290.out).2.2 | (with_reducible refine Kd.C_alloc ?_ _) | (with_reducible refine Kd.C_drewN ?_ _) | (with_reducible refine Kd.C_drew ?_)))
             (case side4 => exact (Kd.V_reads' HO290.out).2.1)
             (case side5 => exact zk_ ((Kd.R_reads' HO260.out).2.2))
             (case side6 => exact (Kd.R_reads' HO260.out).2.1)
             (case side7 => repeat (first | exact (Kd.V_reads' HO263.out).2.2 | (with_reducible refine Kd.C_alloc ?_ _) | (with_reducible refine Kd.C_drewN ?_ _) | (with_reducible refine Kd.C_drew ?_)))
             (case side8 => exact (Kd.V_reads' HO263.out).2.1)
             rintro e w50 ⟨v292, v295, rfl, ho0, ho1, hb⟩
             refine ⟨_, rfl, ?_⟩
             replace HO263 := Aside0.mk (Kd.V_mono (Kd.V_told (Kd.V_told (Kd.V_old (by (with_reducible repeat (first | apply Kd.V_alloc | apply Kd.V_drewN | apply Kd.V_drew)); exact HO263.out) hb) (Kd.R_base ho0)) (Kd.R_base ho1)) (fun _ h_ => h_.1))
             replace HO276 := Aside0.mk (Kd.V_mono (Kd.V_told (Kd.V_told (Kd.V_old (by (with_reducible repeat (first | apply Kd.V_alloc | apply Kd.V_drewN | apply Kd.V_drew)); exact HO276.out) hb) (Kd.R_base ho0)) (Kd.R_base ho1)) (fun _ h_ => h_.1))
             replace HO290 := Aside0.mk (Kd.V_mono (Kd.V_told (Kd.V_told (Kd.V_old (by (with_reducible repeat (first | apply Kd.V_alloc | apply Kd.V_drewN | apply Kd.V_drew)); exact HO290.out) hb) (Kd.R_base ho0)) (Kd.R_base ho1)) (fun _ h_ => h_.1))
             have HO293 := Aside0.mk (Kd.R_lower (Kd.R_new' (Kd.R_new' (Kd.R_new' (Kd.R_new' ho0 (Kd.R_lt (zr_ HO260.out))) (Kd.R_lt (zr_ HO273.out))) (Kd.R_lt (zr_ HO279.out))) (Kd.R_lt (zr_ HO287.out))) (below_size (zw3_ HB GE264 GE284 GE298)))
             replace HO260 := Aside0.mk (Kd.R_elder' (zr_ HO260.out) (Kd.R_base ho0) hb)
             replace HO273 := Aside0.mk (Kd.R_elder' (zr_ HO273.out) (Kd.R_base ho0) hb)
             replace HO279 := Aside0.mk (Kd.R_elder' (zr_ HO279.out) (Kd.R_base ho0) hb)
             replace HO287 := Aside0.mk (Kd.R_elder' (zr_ HO287.out) (Kd.R_base ho0) hb)
             have HO296 := Aside0.mk (Kd.R_lower (Kd.R_new' (Kd.R_new' ho1 (Kd.R_lt (zr_ HO270.out))) (Kd.R_lt (zr_ HO282.out))) (below_size (zw3_ HB GE264 GE284 GE298)))
             replace HO270 := Aside0.mk (Kd.R_elder' (zr_ HO270.out) (Kd.R_base ho1) hb)
             replace HO282 := Aside0.mk (Kd.R_elder' (zr_ HO282.out) (Kd.R_base ho1) hb)
             replace BK264 := Aside0.mk (zl_ BK264 hb)
             replace BK284 := Aside0.mk (zl_ BK284 hb)
             replace BK298 := Aside0.mk (zl_ BK298 hb)
             replace HB := Aside0.mk (below_step (zw3_ HB GE264 GE284 GE298) hb)
             (try clear hb)
             (try clear hb2)
             (try clear hk)
             (try clear hi)
             (try clear ho0)
             (try clear ho1)
             refine hK.out _ _ ⟨(blk_cell BK264.out 0).trans rfl, (blk_cell BK264.out 1).trans rfl⟩ (fun hHeld => ?_)
             clear hK K
             refine zq_ (some 45) (h := ?_)
             refine zp_ 4 (some 41) (h := ?_)
             refine zp_ 5 (some 46) (h := ?_)
             refine zp_ 6 (some 47) (h := ?_)
             exact norm_ (by simp only [putAll, Act.put, List.setIfInBounds_toArray, List.set_cons_zero, List.set_cons_succ]) (hCont (.slice Ao48 t285.length co48, .slice Ao49 t288.length co49, v292, v295, gb298) _ ⟨hHeld, (zr_ (Kd.R_mono HO260.out (fun _ hk => ⟨hk.1.1.1, ⟨hk.1.1.2, ⟨hk.1.2, hk.2⟩⟩⟩))), (by (with_reducible repeat (first | apply Kd.V_alloc | apply Kd.V_drewN | apply Kd.V_drew)); exact Kd.V_mono HO263.out (fun _ hk => ⟨hk.1.1.1.1.1, ⟨hk.1.1.1.1.2.1, ⟨hk.1.1.1.1.2.2.1, ⟨hk.1.1.1.1.2.2.2.1, ⟨hk.1.1.1.1.2.2.2.2.1, ⟨hk.1.1.1.2, ⟨hk.1.2, ⟨hk.2, ⟨hk.1.1.1.1.2.2.2.2.2.1, ⟨hk.1.1.1.1.2.2.2.2.2.2, hk.1.1.2⟩⟩⟩⟩⟩⟩⟩⟩⟩⟩)), (zr_ HO270.out), (zr_ (Kd.R_mono HO273.out (fun _ hk => ⟨hk.1.1.1, ⟨hk.1.1.2, ⟨hk.1.2, hk.2⟩⟩⟩))), (by (with_reducible repeat (first | apply Kd.V_alloc | apply Kd.V_drewN | apply Kd.V_drew)); exact Kd.V_mono HO276.out (fun _ hk => ⟨hk.1.1.1.1.1, ⟨hk.1.1.1.1.2.1, ⟨hk.1.1.1.1.2.2.1, ⟨hk.1.1.1.1.2.2.2.1, ⟨hk.1.1.1.2, ⟨hk.1.2, ⟨hk.2, ⟨hk.1.1.1.1.2.2.2.2.1, ⟨hk.1.1.1.1.2.2.2.2.2, hk.1.1.2⟩⟩⟩⟩⟩⟩⟩⟩⟩)), (zr_ (Kd.R_mono HO279.out (fun _ hk => ⟨hk.1.1.1, ⟨hk.1.1.2, ⟨hk.1.2, hk.2⟩⟩⟩))), (zr_ HO282.out), (zr_ (Kd.R_mono HO287.out (fun _ hk => ⟨hk.1.1.1.2, ⟨hk.1.1.2, ⟨hk.1.2, hk.2⟩⟩⟩))), (by (with_reducible repeat (first | apply Kd.V_alloc | apply Kd.V_drewN | apply Kd.V_drew)); exact Kd.V_mono HO290.out (fun _ hk => ⟨hk.1.1.1.2.1, ⟨hk.1.1.1.2.2.1, ⟨hk.1.1.1.2.2.2.1, ⟨hk.1.1.1.2.2.2.2.1, ⟨hk.1.1.1.2.2.2.2.2.1, ⟨hk.1.1.1.1, ⟨hk.1.2, ⟨hk.2, ⟨hk.1.1.1.2.2.2.2.2.2.1, ⟨hk.1.1.1.2.2.2.2.2.2.2, hk.1.1.2⟩⟩⟩⟩⟩⟩⟩⟩⟩⟩)), (zr_ (Kd.R_mono HO293.out (fun _ hk => ⟨hk.1.1.1.2, ⟨hk.1.1.2, ⟨hk.1.2, hk.2⟩⟩⟩))), (zr_ (Kd.R_mono HO296.out (fun _ hk => ⟨hk.1.2, hk.2⟩))), (zb_ BK264), (zb_ BK284), (zb_ BK298), GW298.out, GE298.out, NB264_298.out, NB298_264.out, NB284_298.out, NB298_284.out, (zw3_ HB GE264 GE284 GE298)⟩)
           ·skip
            refine box_step ?hg (N := 10) ?hd (cs := #[.slice none 0 0, .slice none 0 0]) (t := 25) ?hr ?_; (case hd => rfl); (case hg => rfl); (case hr => first | (go_simp; done) | (go_simp; rfl))
            intro gb298 hg w46 hbox hb
            replace HO260 := Aside0.mk (Kd.R_below (zr_ HO260.out) hb)
            replace HO263 := Aside0.mk (Kd.V_below (Kd.V_elderB (by (with_reducible repeat (first | apply Kd.V_alloc | apply Kd.V_drewN | apply Kd.V_drew)); exact HO263.out) gb298 (Nat.le_of_eq hg.symm)) hb)
            replace HO270 := Aside0.mk (Kd.R_below (zr_ HO270.out) hb)
            replace HO273 := Aside0.mk (Kd.R_below (zr_ HO273.out) hb)
            replace HO276 := Aside0.mk (Kd.V_below (Kd.V_elderB (by (with_reducible repeat (first | apply Kd.V_alloc | apply Kd.V_drewN | apply Kd.V_drew)); exact HO276.out) gb298 (Nat.le_of_eq hg.symm)) hb)
            replace HO279 := Aside0.mk (Kd.R_below (zr_ HO279.out) hb)
            replace HO282 := Aside0.mk (Kd.R_below (zr_ HO282.out) hb)
            have BK298 := Aside0.mk (hbox)
            have GW298 := Aside0.mk (zs_ hg (zw2_ HB GE264 GE284))
            have GE298 := Aside0.mk (zs_ hg (zw2_ HB GE264 GE284))
            replace HB := Aside0.mk (below_step (zw2_ HB GE264 GE284) hb)
            have NB264_298 := Aside0.mk (zn_ hg BK264)
            have NB298_264 := Aside0.mk (zm_ hg BK264)
            replace BK264 := Aside0.mk (zl_ BK264 hb)
            have NB284_298 := Aside0.mk (zn_ hg BK284)
            have NB298_284 := Aside0.mk (zm_ hg BK284)
            replace BK284 := Aside0.mk (zl_ BK284 hb)
            clear hb hbox hg
            refine hK.out _ _ ⟨(blk_cell BK264.out 0).trans rfl, (blk_cell BK264.out 1).trans rfl⟩ (fun hHeld => ?_)
            clear hK K
            refine zq_ (some 10) (h := ?_)
            refine one_ (i := 1) (N := some 43) #[true, true, true, false, false, false, false, true, false, false] rfl rfl (one_of HT_.out (by kernel_rfl)) (by decide) (fun K hK => ?_)
            refine goes_ Try.func17 (by kernel_rfl) rfl #[.int .i64 1, .slice A1 l1.length c1] (by rfl) rfl rfl (by (try simp only [List.map_toArray, List.map_cons, List.map_nil]); first | done | rfl | (simp only [List.length_drop, List.length_take]; rfl)) ?_
            with_reducible refine (carousellaw8_rows.calls 1 (fun k_ => k_ < w.heap.size) _ _ l1 t285 t288 _ ?side1 A15.out).mono ?_
            (case side1 => exact Kd.V_mk HC1.out (Kd.F_below (Kd.C_F (Kd.heap_int .i64) HR1.out) (zw3_ HB GE264 GE284 GE298)))
            rintro e w47 ⟨v286, v289, rfl, ho0, ho1, hb⟩
            refine ⟨_, rfl, ?_⟩
            replace HO263 := Aside0.mk (Kd.V_elder' (by (with_reducible repeat (first | apply Kd.V_alloc | apply Kd.V_drewN | apply Kd.V_drew)); exact HO263.out) (Kd.R_base ho0) hb)
            replace HO276 := Aside0.mk (Kd.V_elder' (by (with_reducible repeat (first | apply Kd.V_alloc | apply Kd.V_drewN | apply Kd.V_drew)); exact HO276.out) (Kd.R_base ho0) hb)
            have HO287 := Aside0.mk (Kd.R_lower (Kd.R_new' (Kd.R_new' (Kd.R_new' (Kd.R_mono (ok' := fun k_ => True) ho0 (fun _ hk_ => trivial)) (Kd.R_lt (zr_ HO260.out))) (Kd.R_lt (zr_ HO273.out))) (Kd.R_lt (zr_ HO279.out))) (below_size (zw3_ HB GE264 GE284 GE298)))
            have HO290 := Aside0.mk (Kd.V_lower (Kd.V_mono (ok' := fun k_ => some k_ ≠ (v286 : Value).ownBlock ∧ some k_ ≠ (.slice Ao25 t258.length co25 : Value).ownBlock ∧ some k_ ≠ (v269 : Value).ownBlock ∧ some k_ ≠ (v272 : Value).ownBlock ∧ some k_ ≠ (.slice Ao40 t277.length co40 : Value).ownBlock ∧ some k_ ≠ (.slice Ao42 t280.length co42 : Value).ownBlock ∧ k_ ≠ gb264 ∧ k_ ≠ gb284 ∧ k_ ≠ gb298) ho1 (fun k_ hk_ => ⟨hk_.2, Or.elim hk_.1 (fun hs_ => fun e_ => Nat.not_le.2 hs_ (Kd.R_base HO260.out k_ e_.symm)) (fun hn_ => (Kd.fresh' (Kd.R_lt (zr_ HO260.out)) k_ hn_)), Or.elim hk_.1 (fun hs_ => fun e_ => Nat.not_le.2 hs_ (Kd.R_base HO270.out k_ e_.symm)) (fun hn_ => (Kd.fresh' (Kd.R_lt (zr_ HO270.out)) k_ hn_)), Or.elim hk_.1 (fun hs_ => fun e_ => Nat.not_le.2 hs_ (Kd.R_base HO273.out k_ e_.symm)) (fun hn_ => (Kd.fresh' (Kd.R_lt (zr_ HO273.out)) k_ hn_)), Or.elim hk_.1 (fun hs_ => fun e_ => Nat.not_le.2 hs_ (Kd.R_base HO279.out k_ e_.symm)) (fun hn_ => (Kd.fresh' (Kd.R_lt (zr_ HO279.out)) k_ hn_)), Or.elim hk_.1 (fun hs_ => fun e_ => Nat.not_le.2 hs_ (Kd.R_base HO282.out k_ e_.symm)) (fun hn_ => (Kd.fresh' (Kd.R_lt (zr_ HO282.out)) k_ hn_)), Or.elim hk_.1 (fun hs_ => fun e_ => Nat.not_le.2 hs_ (by rw [e_]; exact GW264.out)) (fun hn_ => (Kd.freshB (g := gb264) (o := .cells #[.slice Ao25 t258.length co25, .slice Ao27 t261.length co27] 25 (0, 0)) (zb_ BK264) k_ hn_)), Or.elim hk_.1 (fun hs_ => fun e_ => Nat.not_le.2 hs_ (by rw [e_]; exact GW284.out)) (fun hn_ => (Kd.freshB (g := gb284) (o := .cells #[.slice Ao40 t277.length co40, .slice Ao42 t280.length co42] 25 (0, 0)) (zb_ BK284) k_ hn_)), Or.elim hk_.1 (fun hs_ => fun e_ => Nat.not_le.2 hs_ (by rw [e_]; exact GW298.out)) (fun hn_ => (Kd.freshB (g := gb298) (o := .cells #[.slice none 0 0, .slice none 0 0] 25 (0, 0)) (zb_ BK298) k_ hn_))⟩)) (below_size (zw3_ HB GE264 GE284 GE298)))
            replace HO260 := Aside0.mk (Kd.R_elder' (zr_ HO260.out) (Kd.R_base ho0) hb)
            replace HO270 := Aside0.mk (Kd.R_below (zr_ HO270.out) hb)
            replace HO273 := Aside0.mk (Kd.R_elder' (zr_ HO273.out) (Kd.R_base ho0) hb)
            replace HO279 := Aside0.mk (Kd.R_elder' (zr_ HO279.out) (Kd.R_base ho0) hb)
            replace HO282 := Aside0.mk (Kd.R_below (zr_ HO282.out) hb)
            replace BK264 := Aside0.mk (zl_ BK264 hb)
            replace BK284 := Aside0.mk (zl_ BK284 hb)
            replace BK298 := Aside0.mk (zl_ BK298 hb)
            replace HB := Aside0.mk (below_step (zw3_ HB GE264 GE284 GE298) hb)
            (try clear hb)
            (try clear hb2)
            (try clear hk)
            (try clear hi)
            (try clear ho0)
            (try clear ho1)
            obtain ⟨Ao48, co48, eo48⟩ := Kd.R_slice HO287.out
            (first | subst eo48 | (injection eo48 with f1_ f2_ f3_; have f4_ := f1_.symm; have f5_ := f3_.symm; clear f1_ f2_ f3_; subst f4_; subst f5_))
            obtain ⟨Ao49, co49, eo49⟩ := Kd.V_slice HO290.out
            (first | subst eo49 | (injection eo49 with f1_ f2_ f3_; have f4_ := f1_.symm; have f5_ := f3_.symm; clear f1_ f2_ f3_; subst f4_; subst f5_))
            refine hK.out _ _ ⟨(blk_cell BK264.out 0).trans rfl, (blk_cell BK264.out 1).trans rfl⟩ (fun hHeld => ?_)
            clear hK K
            refine zq_ (some 43) (h := ?_)
            refine one_ (i := 3) (N := some 45) #[true, true, true, true, false, false, false, true, false, false] rfl rfl (one_of HT_.out (by kernel_rfl)) (by decide) (fun K hK => ?_)
            refine goes_ Try.func13 (by kernel_rfl) rfl #[.agg #[.slice Ao48 t285.length co48, .slice Ao49 t288.length co49], .agg #[.slice Ao25 t258.length co25, .slice Ao27 t261.length co27], .int .i64 1] (by rfl) rfl rfl (by (try simp only [List.map_toArray, List.map_cons, List.map_nil]); first | done | rfl | (simp only [List.length_drop, List.length_take]; rfl)) ?_
            with_reducible refine (conv_Row.calls kj5 _ _ t285 _ _ t288 _ _ t258 _ _ t261 1 t291 t294 t297 _ ?side1 ?side2 ?side3 ?side4 ?side5 ?side6 ?side7 ?side8 A16.out).mono ?_
            (case side1 => exact zk_ ((Kd.R_reads' HO287.out).2.2))
            (case side2 => exact (Kd.R_reads' HO287.out).2.1)
            (case side3 => repeat (first | exact (Kd.V_reads' HO290.out).2.2 | (with_reducible refine Kd.C_alloc ?_ _) | (with_reducible refine Kd.C_drewN ?_ _) | (with_reducible refine Kd.C_drew ?_)))
            (case side4 => exact (Kd.V_reads' HO290.out).2.1)
            (case side5 => exact zk_ ((Kd.R_reads' HO260.out).2.2))
            (case side6 => exact (Kd.R_reads' HO260.out).2.1)
            (case side7 => repeat (first | exact (Kd.V_reads' HO263.out).2.2 | (with_reducible refine Kd.C_alloc ?_ _) | (with_reducible refine Kd.C_drewN ?_ _) | (with_reducible refine Kd.C_drew ?_)))
            (case side8 => exact (Kd.V_reads' HO263.out).2.1)
            rintro e w50 ⟨v292, v295, rfl, ho0, ho1, hb⟩
            refine ⟨_, rfl, ?_⟩
            replace HO263 := Aside0.mk (Kd.V_mono (Kd.V_told (Kd.V_told (Kd.V_old (by (with_reducible repeat (first | apply Kd.V_alloc | apply Kd.V_drewN | apply Kd.V_drew)); exact HO263.out) hb) (Kd.R_base ho0)) (Kd.R_base ho1)) (fun _ h_ => h_.1))
            replace HO276 := Aside0.mk (Kd.V_mono (Kd.V_told (Kd.V_told (Kd.V_old (by (with_reducible repeat (first | apply Kd.V_alloc | apply Kd.V_drewN | apply Kd.V_drew)); exact HO276.out) hb) (Kd.R_base ho0)) (Kd.R_base ho1)) (fun _ h_ => h_.1))
            replace HO290 := Aside0.mk (Kd.V_mono (Kd.V_told (Kd.V_told (Kd.V_old (by (with_reducible repeat (first | apply Kd.V_alloc | apply Kd.V_drewN | apply Kd.V_drew)); exact HO290.out) hb) (Kd.R_base ho0)) (Kd.R_base ho1)) (fun _ h_ => h_.1))
            have HO293 := Aside0.mk (Kd.R_lower (Kd.R_new' (Kd.R_new' (Kd.R_new' (Kd.R_new' ho0 (Kd.R_lt (zr_ HO260.out))) (Kd.R_lt (zr_ HO273.out))) (Kd.R_lt (zr_ HO279.out))) (Kd.R_lt (zr_ HO287.out))) (below_size (zw3_ HB GE264 GE284 GE298)))
            replace HO260 := Aside0.mk (Kd.R_elder' (zr_ HO260.out) (Kd.R_base ho0) hb)
            replace HO273 := Aside0.mk (Kd.R_elder' (zr_ HO273.out) (Kd.R_base ho0) hb)
            replace HO279 := Aside0.mk (Kd.R_elder' (zr_ HO279.out) (Kd.R_base ho0) hb)
            replace HO287 := Aside0.mk (Kd.R_elder' (zr_ HO287.out) (Kd.R_base ho0) hb)
            have HO296 := Aside0.mk (Kd.R_lower (Kd.R_new' (Kd.R_new' ho1 (Kd.R_lt (zr_ HO270.out))) (Kd.R_lt (zr_ HO282.out))) (below_size (zw3_ HB GE264 GE284 GE298)))
            replace HO270 := Aside0.mk (Kd.R_elder' (zr_ HO270.out) (Kd.R_base ho1) hb)
            replace HO282 := Aside0.mk (Kd.R_elder' (zr_ HO282.out) (Kd.R_base ho1) hb)
            replace BK264 := Aside0.mk (zl_ BK264 hb)
            replace BK284 := Aside0.mk (zl_ BK284 hb)
            replace BK298 := Aside0.mk (zl_ BK298 hb)
            replace HB := Aside0.mk (below_step (zw3_ HB GE264 GE284 GE298) hb)
            (try clear hb)
            (try clear hb2)
            (try clear hk)
            (try clear hi)
            (try clear ho0)
            (try clear ho1)
            refine hK.out _ _ ⟨(blk_cell BK264.out 0).trans rfl, (blk_cell BK264.out 1).trans rfl⟩ (fun hHeld => ?_)
            clear hK K
            refine zq_ (some 45) (h := ?_)
            refine zp_ 4 (some 41) (h := ?_)
            refine zp_ 5 (some 46) (h := ?_)
            refine zp_ 6 (some 47) (h := ?_)
            exact norm_ (by simp only [putAll, Act.put, List.setIfInBounds_toArray, List.set_cons_zero, List.set_cons_succ]) (hCont (.slice Ao48 t285.length co48, .slice Ao49 t288.length co49, v292, v295, gb298) _ ⟨hHeld, (zr_ (Kd.R_mono HO260.out (fun _ hk => ⟨hk.1.1.1, ⟨hk.1.1.2, ⟨hk.1.2, hk.2⟩⟩⟩))), (by (with_reducible repeat (first | apply Kd.V_alloc | apply Kd.V_drewN | apply Kd.V_drew)); exact Kd.V_mono HO263.out (fun _ hk => ⟨hk.1.1.1.1.1, ⟨hk.1.1.1.1.2.1, ⟨hk.1.1.1.1.2.2.1, ⟨hk.1.1.1.1.2.2.2.1, ⟨hk.1.1.1.1.2.2.2.2.1, ⟨hk.1.1.2, ⟨hk.1.2, ⟨hk.2, ⟨hk.1.1.1.1.2.2.2.2.2.1, ⟨hk.1.1.1.1.2.2.2.2.2.2, hk.1.1.1.2⟩⟩⟩⟩⟩⟩⟩⟩⟩⟩)), (zr_ HO270.out), (zr_ (Kd.R_mono HO273.out (fun _ hk => ⟨hk.1.1.1, ⟨hk.1.1.2, ⟨hk.1.2, hk.2⟩⟩⟩))), (by (with_reducible repeat (first | apply Kd.V_alloc | apply Kd.V_drewN | apply Kd.V_drew)); exact Kd.V_mono HO276.out (fun _ hk => ⟨hk.1.1.1.1.1, ⟨hk.1.1.1.1.2.1, ⟨hk.1.1.1.1.2.2.1, ⟨hk.1.1.1.1.2.2.2.1, ⟨hk.1.1.2, ⟨hk.1.2, ⟨hk.2, ⟨hk.1.1.1.1.2.2.2.2.1, ⟨hk.1.1.1.1.2.2.2.2.2, hk.1.1.1.2⟩⟩⟩⟩⟩⟩⟩⟩⟩)), (zr_ (Kd.R_mono HO279.out (fun _ hk => ⟨hk.1.1.1, ⟨hk.1.1.2, ⟨hk.1.2, hk.2⟩⟩⟩))), (zr_ HO282.out), (zr_ (Kd.R_mono HO287.out (fun _ hk => ⟨hk.1.1.1.2, ⟨hk.1.1.2, ⟨hk.1.2, hk.2⟩⟩⟩))), (by (with_reducible repeat (first | apply Kd.V_alloc | apply Kd.V_drewN | apply Kd.V_drew)); exact Kd.V_mono HO290.out (fun _ hk => ⟨hk.1.1.2.1, ⟨hk.1.1.2.2.1, ⟨hk.1.1.2.2.2.1, ⟨hk.1.1.2.2.2.2.1, ⟨hk.1.1.2.2.2.2.2.1, ⟨hk.1.1.1, ⟨hk.1.2, ⟨hk.2, ⟨hk.1.1.2.2.2.2.2.2.1, ⟨hk.1.1.2.2.2.2.2.2.2.1, hk.1.1.2.2.2.2.2.2.2.2⟩⟩⟩⟩⟩⟩⟩⟩⟩⟩)), (zr_ (Kd.R_mono HO293.out (fun _ hk => ⟨hk.1.1.1.2, ⟨hk.1.1.2, ⟨hk.1.2, hk.2⟩⟩⟩))), (zr_ (Kd.R_mono HO296.out (fun _ hk => ⟨hk.1.2, hk.2⟩))), (zb_ BK264), (zb_ BK284), (zb_ BK298), GW298.out, GE298.out, NB264_298.out, NB298_264.out, NB284_298.out, NB298_284.out, (zw3_ HB GE264 GE284 GE298)⟩)
          rintro ⟨v286, v289, v292, v295, gb298⟩ w51 ⟨hS_, h0_, h1_, h2_, h3_, h4_, h5_, h6_, h7_, h8_, h9_, h10_, h11_, h12_, h13_, h14_, h15_, h16_, h17_, h18_, h19_, h20_⟩
          (try dsimp only at h0_ h1_ h2_ h3_ h4_ h5_ h6_ h7_ h8_ h9_ h10_ h11_ h12_ h13_ h14_ h15_ h16_ h17_ h18_ h19_ h20_)
          clear HO260 HO263 HO270 HO273 HO276 HO279 HO282 BK264 BK284 HB
          have HO260 := Aside0.mk h0_
          have HO263 := Aside0.mk h1_
          have HO270 := Aside0.mk h2_
          have HO273 := Aside0.mk h3_
          have HO276 := Aside0.mk h4_
          have HO279 := Aside0.mk h5_
          have HO282 := Aside0.mk h6_
          have HO287 := Aside0.mk h7_
          have HO290 := Aside0.mk h8_
          have HO293 := Aside0.mk h9_
          have HO296 := Aside0.mk h10_
          have BK264 := Aside0.mk h11_
          have BK284 := Aside0.mk h12_
          have BK298 := Aside0.mk h13_
          have GW298 := Aside0.mk h14_
          have GE298 := Aside0.mk h15_
          have NB264_298 := Aside0.mk h16_
          have NB298_264 := Aside0.mk h17_
          have NB284_298 := Aside0.mk h18_
          have NB298_284 := Aside0.mk h19_
          have HB := Aside0.mk h20_
          clear h0_ h1_ h2_ h3_ h4_ h5_ h6_ h7_ h8_ h9_ h10_ h11_ h12_ h13_ h14_ h15_ h16_ h17_ h18_ h19_ h20_
          have hHeld : w51.cell? ⟨gb264, 0, none⟩ = some (.slice Ao25 t258.length co25) ∧ w51.cell? ⟨gb264, 1, none⟩ = some (.slice Ao27 t261.length co27) := hS_
          obtain ⟨Ao52, co52, eo52⟩ := Kd.R_slice HO293.out
          (first | subst eo52 | (injection eo52 with f1_ f2_ f3_; have f4_ := f1_.symm; have f5_ := f3_.symm; clear f1_ f2_ f3_; subst f4_; subst f5_))
          obtain ⟨Ao54, co54, eo54⟩ := Kd.R_slice HO296.out
          (first | subst eo54 | (injection eo54 with f1_ f2_ f3_; have f4_ := f1_.symm; have f5_ := f3_.symm; clear f1_ f2_ f3_; subst f4_; subst f5_))
          refine zi_ (h := ?_)
          refine one_ (i := 8) (N := none) #[true, true, true, true, true, true, true, true, true, false] rfl rfl (one_of HT_.out (by kernel_rfl)) (by decide) (fun K hK => ?_)
          have hs53 := zx_ (v := .slice none 0 0) BK298 0
          have hfs53 := blk_frozen BK298.out 0
          have hns53_0 := NB264_298.out
          have hns53_1 := NB284_298.out
          have hms53_0 := NB298_264.out
          have hms53_1 := NB298_284.out
          have hs55 := zx_ (v := .slice none 0 0) BK298 1
          have hfs55 := blk_frozen BK298.out 1
          have hns55_0 := NB264_298.out
          have hns55_1 := NB284_298.out
          have hms55_0 := NB298_264.out
          have hms55_1 := NB298_284.out
          refine skip_ (w1 := ?_) (by rfl) rfl ?_ ?_
          rotate_left
          ·go_simp
           rfl
          refine hK.out _ _ ⟨((cell_far (p := ⟨gb298, _, none⟩) NB264_298.out _).trans (((cell_far (p := ⟨gb298, _, none⟩) NB264_298.out _).trans (hHeld.1)))), ((cell_far (p := ⟨gb298, _, none⟩) NB264_298.out _).trans (((cell_far (p := ⟨gb298, _, none⟩) NB264_298.out _).trans (hHeld.2))))⟩ (fun hHeld => ?_)
          clear hK K
          refine zp_ 9 (some 11) (h := ?_)
          refine done_ (done_of HT_.out (by kernel_rfl)) ?_
          try go_wp2
          have n0_ : Aside0 (Kd.R (Kd.int .i64) 3 ((w51.setCell ⟨gb298, 0, none⟩ (.slice Ao52 t291.length co52)).setCell ⟨gb298, 1, none⟩ (.slice Ao54 t294.length co54)) w.heap.size (fun k_ => some k_ ≠ (v272 : Value).ownBlock ∧ some k_ ≠ (.slice Ao40 t277.length co40 : Value).ownBlock ∧ some k_ ≠ (v286 : Value).ownBlock ∧ some k_ ≠ (.slice Ao52 t291.length co52 : Value).ownBlock) (.slice Ao25 t258.length co25) t258) := ⟨zr_ (Kd.R_mono (Kd.R_far (p := ⟨gb298, 1, none⟩) (Kd.R_far (p := ⟨gb298, 0, none⟩) (Kd.R_types HO260.out BK298.out (by decide)) (fun _ hk => hk.2) (.slice Ao52 t291.length co52)) (fun _ hk => hk.2) (.slice Ao54 t294.length co54)) (fun _ hk => ⟨hk.1.1, ⟨hk.1.2.1, ⟨hk.1.2.2.1, hk.1.2.2.2⟩⟩⟩))⟩
          have n1_ : Aside0 (Kd.V (Kd.int .i64) 33 ((w51.setCell ⟨gb298, 0, none⟩ (.slice Ao52 t291.length co52)).setCell ⟨gb298, 1, none⟩ (.slice Ao54 t294.length co54)) w.heap.size (fun k_ => some k_ ≠ (.slice Ao25 t258.length co25 : Value).ownBlock ∧ some k_ ≠ (v269 : Value).ownBlock ∧ some k_ ≠ (v272 : Value).ownBlock ∧ some k_ ≠ (.slice Ao40 t277.length co40 : Value).ownBlock ∧ some k_ ≠ (.slice Ao42 t280.length co42 : Value).ownBlock ∧ some k_ ≠ (v286 : Value).ownBlock ∧ some k_ ≠ (.slice Ao52 t291.length co52 : Value).ownBlock ∧ some k_ ≠ (.slice Ao54 t294.length co54 : Value).ownBlock ∧ k_ ≠ gb264 ∧ k_ ≠ gb284 ∧ k_ ≠ gb298) (.slice Ao27 t261.length co27) t261) := ⟨by (with_reducible repeat (first | apply Kd.V_alloc | apply Kd.V_drewN | apply Kd.V_drew)); exact Kd.V_mono (Kd.V_far (p := ⟨gb298, 1, none⟩) (Kd.V_far (p := ⟨gb298, 0, none⟩) (Kd.V_mono HO263.out (fun k_ hk => (⟨hk, hk.2.2.2.2.2.2.2.2.2.2⟩ : _ ∧ k_ ≠ gb298))) (fun _ hk => hk.2) (.slice Ao52 t291.length co52)) (fun _ hk => hk.2) (.slice Ao54 t294.length co54)) (fun _ hk => ⟨hk.1.1, ⟨hk.1.2.1, ⟨hk.1.2.2.1, ⟨hk.1.2.2.2.1, ⟨hk.1.2.2.2.2.1, ⟨hk.1.2.2.2.2.2.1, ⟨hk.1.2.2.2.2.2.2.1, ⟨hk.1.2.2.2.2.2.2.2.1, ⟨hk.1.2.2.2.2.2.2.2.2.1, ⟨hk.1.2.2.2.2.2.2.2.2.2.1, hk.1.2.2.2.2.2.2.2.2.2.2⟩⟩⟩⟩⟩⟩⟩⟩⟩⟩)⟩
          have n2_ : Aside0 (Kd.R (Kd.int .i64) 33 ((w51.setCell ⟨gb298, 0, none⟩ (.slice Ao52 t291.length co52)).setCell ⟨gb298, 1, none⟩ (.slice Ao54 t294.length co54)) w.heap.size (fun k_ => some k_ ≠ (.slice Ao42 t280.length co42 : Value).ownBlock ∧ some k_ ≠ (.slice Ao54 t294.length co54 : Value).ownBlock) v269 y268) := ⟨zr_ (Kd.R_mono (Kd.R_far (p := ⟨gb298, 1, none⟩) (Kd.R_far (p := ⟨gb298, 0, none⟩) (Kd.R_types HO270.out BK298.out (by decide)) (fun _ hk => hk.2) (.slice Ao52 t291.length co52)) (fun _ hk => hk.2) (.slice Ao54 t294.length co54)) (fun _ hk => ⟨hk.1.1, hk.1.2⟩))⟩
          have n3_ : Aside0 (Kd.R (Kd.int .i64) 3 ((w51.setCell ⟨gb298, 0, none⟩ (.slice Ao52 t291.length co52)).setCell ⟨gb298, 1, none⟩ (.slice Ao54 t294.length co54)) w.heap.size (fun k_ => some k_ ≠ (.slice Ao25 t258.length co25 : Value).ownBlock ∧ some k_ ≠ (.slice Ao40 t277.length co40 : Value).ownBlock ∧ some k_ ≠ (v286 : Value).ownBlock ∧ some k_ ≠ (.slice Ao52 t291.length co52 : Value).ownBlock) v272 t271) := ⟨zr_ (Kd.R_mono (Kd.R_far (p := ⟨gb298, 1, none⟩) (Kd.R_far (p := ⟨gb298, 0, none⟩) (Kd.R_types HO273.out BK298.out (by decide)) (fun _ hk => hk.2) (.slice Ao52 t291.length co52)) (fun _ hk => hk.2) (.slice Ao54 t294.length co54)) (fun _ hk => ⟨hk.1.1, ⟨hk.1.2.1, ⟨hk.1.2.2.1, hk.1.2.2.2⟩⟩⟩))⟩
          have n4_ : Aside0 (Kd.V (Kd.int .i64) 33 ((w51.setCell ⟨gb298, 0, none⟩ (.slice Ao52 t291.length co52)).setCell ⟨gb298, 1, none⟩ (.slice Ao54 t294.length co54)) w.heap.size (fun k_ => some k_ ≠ (.slice Ao25 t258.length co25 : Value).ownBlock ∧ some k_ ≠ (v272 : Value).ownBlock ∧ some k_ ≠ (.slice Ao40 t277.length co40 : Value).ownBlock ∧ some k_ ≠ (.slice Ao42 t280.length co42 : Value).ownBlock ∧ some k_ ≠ (v286 : Value).ownBlock ∧ some k_ ≠ (.slice Ao52 t291.length co52 : Value).ownBlock ∧ some k_ ≠ (.slice Ao54 t294.length co54 : Value).ownBlock ∧ k_ ≠ gb264 ∧ k_ ≠ gb284 ∧ k_ ≠ gb298) v275 t274) := ⟨by (with_reducible repeat (first | apply Kd.V_alloc | apply Kd.V_drewN | apply Kd.V_drew)); exact Kd.V_mono (Kd.V_far (p := ⟨gb298, 1, none⟩) (Kd.V_far (p := ⟨gb298, 0, none⟩) (Kd.V_mono HO276.out (fun k_ hk => (⟨hk, hk.2.2.2.2.2.2.2.2.2⟩ : _ ∧ k_ ≠ gb298))) (fun _ hk => hk.2) (.slice Ao52 t291.length co52)) (fun _ hk => hk.2) (.slice Ao54 t294.length co54)) (fun _ hk => ⟨hk.1.1, ⟨hk.1.2.1, ⟨hk.1.2.2.1, ⟨hk.1.2.2.2.1, ⟨hk.1.2.2.2.2.1, ⟨hk.1.2.2.2.2.2.1, ⟨hk.1.2.2.2.2.2.2.1, ⟨hk.1.2.2.2.2.2.2.2.1, ⟨hk.1.2.2.2.2.2.2.2.2.1, hk.1.2.2.2.2.2.2.2.2.2⟩⟩⟩⟩⟩⟩⟩⟩⟩)⟩
          have n5_ : Aside0 (Kd.R (Kd.int .i64) 3 ((w51.setCell ⟨gb298, 0, none⟩ (.slice Ao52 t291.length co52)).setCell ⟨gb298, 1, none⟩ (.slice Ao54 t294.length co54)) w.heap.size (fun k_ => some k_ ≠ (.slice Ao25 t258.length co25 : Value).ownBlock ∧ some k_ ≠ (v272 : Value).ownBlock ∧ some k_ ≠ (v286 : Value).ownBlock ∧ some k_ ≠ (.slice Ao52 t291.length co52 : Value).ownBlock) (.slice Ao40 t277.length co40) t277) := ⟨zr_ (Kd.R_mono (Kd.R_far (p := ⟨gb298, 1, none⟩) (Kd.R_far (p := ⟨gb298, 0, none⟩) (Kd.R_types HO279.out BK298.out (by decide)) (fun _ hk => hk.2) (.slice Ao52 t291.length co52)) (fun _ hk => hk.2) (.slice Ao54 t294.length co54)) (fun _ hk => ⟨hk.1.1, ⟨hk.1.2.1, ⟨hk.1.2.2.1, hk.1.2.2.2⟩⟩⟩))⟩
          have n6_ : Aside0 (Kd.R (Kd.int .i64) 33 ((w51.setCell ⟨gb298, 0, none⟩ (.slice Ao52 t291.length co52)).setCell ⟨gb298, 1, none⟩ (.slice Ao54 t294.length co54)) w.heap.size (fun k_ => some k_ ≠ (v269 : Value).ownBlock ∧ some k_ ≠ (.slice Ao54 t294.length co54 : Value).ownBlock) (.slice Ao42 t280.length co42) t280) := ⟨zr_ (Kd.R_mono (Kd.R_far (p := ⟨gb298, 1, none⟩) (Kd.R_far (p := ⟨gb298, 0, none⟩) (Kd.R_types HO282.out BK298.out (by decide)) (fun _ hk => hk.2) (.slice Ao52 t291.length co52)) (fun _ hk => hk.2) (.slice Ao54 t294.length co54)) (fun _ hk => ⟨hk.1.1, hk.1.2⟩))⟩
          have n7_ : Aside0 (Kd.R (Kd.int .i64) 3 ((w51.setCell ⟨gb298, 0, none⟩ (.slice Ao52 t291.length co52)).setCell ⟨gb298, 1, none⟩ (.slice Ao54 t294.length co54)) w.heap.size (fun k_ => some k_ ≠ (.slice Ao25 t258.length co25 : Value).ownBlock ∧ some k_ ≠ (v272 : Value).ownBlock ∧ some k_ ≠ (.slice Ao40 t277.length co40 : Value).ownBlock ∧ some k_ ≠ (.slice Ao52 t291.length co52 : Value).ownBlock) v286 t285) := ⟨zr_ (Kd.R_mono (Kd.R_far (p := ⟨gb298, 1, none⟩) (Kd.R_far (p := ⟨gb298, 0, none⟩) (Kd.R_types HO287.out BK298.out (by decide)) (fun _ hk => hk.2) (.slice Ao52 t291.length co52)) (fun _ hk => hk.2) (.slice Ao54 t294.length co54)) (fun _ hk => ⟨hk.1.1, ⟨hk.1.2.1, ⟨hk.1.2.2.1, hk.1.2.2.2⟩⟩⟩))⟩
          have n8_ : Aside0 (Kd.V (Kd.int .i64) 33 ((w51.setCell ⟨gb298, 0, none⟩ (.slice Ao52 t291.length co52)).setCell ⟨gb298, 1, none⟩ (.slice Ao54 t294.length co54)) w.heap.size (fun k_ => some k_ ≠ (.slice Ao25 t258.length co25 : Value).ownBlock ∧ some k_ ≠ (v269 : Value).ownBlock ∧ some k_ ≠ (v272 : Value).ownBlock ∧ some k_ ≠ (.slice Ao40 t277.length co40 : Value).ownBlock ∧ some k_ ≠ (.slice Ao42 t280.length co42 : Value).ownBlock ∧ some k_ ≠ (v286 : Value).ownBlock ∧ some k_ ≠ (.slice Ao52 t291.length co52 : Value).ownBlock ∧ some k_ ≠ (.slice Ao54 t294.length co54 : Value).ownBlock ∧ k_ ≠ gb264 ∧ k_ ≠ gb284 ∧ k_ ≠ gb298) v289 t288) := ⟨by (with_reducible repeat (first | apply Kd.V_alloc | apply Kd.V_drewN | apply Kd.V_drew)); exact Kd.V_mono (Kd.V_far (p := ⟨gb298, 1, none⟩) (Kd.V_far (p := ⟨gb298, 0, none⟩) (Kd.V_mono HO290.out (fun k_ hk => (⟨hk, hk.2.2.2.2.2.2.2.2.2.2⟩ : _ ∧ k_ ≠ gb298))) (fun _ hk => hk.2) (.slice Ao52 t291.length co52)) (fun _ hk => hk.2) (.slice Ao54 t294.length co54)) (fun _ hk => ⟨hk.1.1, ⟨hk.1.2.1, ⟨hk.1.2.2.1, ⟨hk.1.2.2.2.1, ⟨hk.1.2.2.2.2.1, ⟨hk.1.2.2.2.2.2.1, ⟨hk.1.2.2.2.2.2.2.1, ⟨hk.1.2.2.2.2.2.2.2.1, ⟨hk.1.2.2.2.2.2.2.2.2.1, ⟨hk.1.2.2.2.2.2.2.2.2.2.1, hk.1.2.2.2.2.2.2.2.2.2.2⟩⟩⟩⟩⟩⟩⟩⟩⟩⟩)⟩
          have n9_ : Aside0 (Kd.R (Kd.int .i64) 3 ((w51.setCell ⟨gb298, 0, none⟩ (.slice Ao52 t291.length co52)).setCell ⟨gb298, 1, none⟩ (.slice Ao54 t294.length co54)) w.heap.size (fun k_ => some k_ ≠ (.slice Ao25 t258.length co25 : Value).ownBlock ∧ some k_ ≠ (v272 : Value).ownBlock ∧ some k_ ≠ (.slice Ao40 t277.length co40 : Value).ownBlock ∧ some k_ ≠ (v286 : Value).ownBlock) (.slice Ao52 t291.length co52) t291) := ⟨zr_ (Kd.R_mono (Kd.R_far (p := ⟨gb298, 1, none⟩) (Kd.R_far (p := ⟨gb298, 0, none⟩) (Kd.R_types HO293.out BK298.out (by decide)) (fun _ hk => hk.2) (.slice Ao52 t291.length co52)) (fun _ hk => hk.2) (.slice Ao54 t294.length co54)) (fun _ hk => ⟨hk.1.1, ⟨hk.1.2.1, ⟨hk.1.2.2.1, hk.1.2.2.2⟩⟩⟩))⟩
          have n10_ : Aside0 (Kd.R (Kd.int .i64) 33 ((w51.setCell ⟨gb298, 0, none⟩ (.slice Ao52 t291.length co52)).setCell ⟨gb298, 1, none⟩ (.slice Ao54 t294.length co54)) w.heap.size (fun k_ => some k_ ≠ (v269 : Value).ownBlock ∧ some k_ ≠ (.slice Ao42 t280.length co42 : Value).ownBlock) (.slice Ao54 t294.length co54) t294) := ⟨zr_ (Kd.R_mono (Kd.R_far (p := ⟨gb298, 1, none⟩) (Kd.R_far (p := ⟨gb298, 0, none⟩) (Kd.R_types HO296.out BK298.out (by decide)) (fun _ hk => hk.2) (.slice Ao52 t291.length co52)) (fun _ hk => hk.2) (.slice Ao54 t294.length co54)) (fun _ hk => ⟨hk.1.1, hk.1.2⟩))⟩
          have n11_ : Aside0 (((w51.setCell ⟨gb298, 0, none⟩ (.slice Ao52 t291.length co52)).setCell ⟨gb298, 1, none⟩ (.slice Ao54 t294.length co54)).heap[gb264]? = some (.cells #[.slice Ao25 t258.length co25, .slice Ao27 t261.length co27] 25 (0, 0))) := ⟨by (with_reducible repeat (first | refine blk_drewN ?_ _ | refine blk_drew ?_ | refine blk_alloc ?_ _)); refine blk_far ?_ NB264_298.out _; (with_reducible repeat (first | refine blk_drewN ?_ _ | refine blk_drew ?_ | refine blk_alloc ?_ _)); refine blk_far ?_ NB264_298.out _; (with_reducible repeat (first | refine blk_drewN ?_ _ | refine blk_drew ?_ | refine blk_alloc ?_ _)); exact BK264.out⟩
          have n12_ : Aside0 (((w51.setCell ⟨gb298, 0, none⟩ (.slice Ao52 t291.length co52)).setCell ⟨gb298, 1, none⟩ (.slice Ao54 t294.length co54)).heap[gb284]? = some (.cells #[.slice Ao40 t277.length co40, .slice Ao42 t280.length co42] 25 (0, 0))) := ⟨by (with_reducible repeat (first | refine blk_drewN ?_ _ | refine blk_drew ?_ | refine blk_alloc ?_ _)); refine blk_far ?_ NB284_298.out _; (with_reducible repeat (first | refine blk_drewN ?_ _ | refine blk_drew ?_ | refine blk_alloc ?_ _)); refine blk_far ?_ NB284_298.out _; (with_reducible repeat (first | refine blk_drewN ?_ _ | refine blk_drew ?_ | refine blk_alloc ?_ _)); exact BK284.out⟩
          have n13_ : Aside0 (((w51.setCell ⟨gb298, 0, none⟩ (.slice Ao52 t291.length co52)).setCell ⟨gb298, 1, none⟩ (.slice Ao54 t294.length co54)).heap[gb298]? = some (.cells #[.slice Ao52 t291.length co52, .slice Ao54 t294.length co54] 25 (0, 0))) := ⟨by (with_reducible repeat (first | refine blk_drewN ?_ _ | refine blk_drew ?_ | refine blk_alloc ?_ _)); refine blk_put (cs := #[.slice Ao52 t291.length co52, .slice none 0 0]) ?_ 1 _ rfl; (with_reducible repeat (first | refine blk_drewN ?_ _ | refine blk_drew ?_ | refine blk_alloc ?_ _)); refine blk_put (cs := #[.slice none 0 0, .slice none 0 0]) ?_ 0 _ rfl; (with_reducible repeat (first | refine blk_drewN ?_ _ | refine blk_drew ?_ | refine blk_alloc ?_ _)); exact BK298.out⟩
          have n14_ : Aside0 (Below w.heap.size w ((w51.setCell ⟨gb298, 0, none⟩ (.slice Ao52 t291.length co52)).setCell ⟨gb298, 1, none⟩ (.slice Ao54 t294.length co54))) := ⟨zw3_ HB GE264 GE284 GE298⟩
          (try clear HO260)
          (try clear HO263)
          (try clear HO270)
          (try clear HO273)
          (try clear HO276)
          (try clear HO279)
          (try clear HO282)
          (try clear HO287)
          (try clear HO290)
          (try clear HO293)
          (try clear HO296)
          (try clear BK264)
          (try clear BK284)
          (try clear BK298)
          (try clear HB)
          generalize ((w51.setCell ⟨gb298, 0, none⟩ (.slice Ao52 t291.length co52)).setCell ⟨gb298, 1, none⟩ (.slice Ao54 t294.length co54)) = w56 at n0_ n1_ n2_ n3_ n4_ n5_ n6_ n7_ n8_ n9_ n10_ n11_ n12_ n13_ n14_ ⊢
          have HO260 := n0_
          have HO263 := n1_
          have HO270 := n2_
          have HO273 := n3_
          have HO276 := n4_
          have HO279 := n5_
          have HO282 := n6_
          have HO287 := n7_
          have HO290 := n8_
          have HO293 := n9_
          have HO296 := n10_
          have BK264 := n11_
          have BK284 := n12_
          have BK298 := n13_
          have HB := n14_
          clear n0_ n1_ n2_ n3_ n4_ n5_ n6_ n7_ n8_ n9_ n10_ n11_ n12_ n13_ n14_
          replace HO260 := Aside0.mk (Kd.R_drew HO260.out)
          replace HO263 := Aside0.mk (Kd.V_drew HO263.out)
          replace HO270 := Aside0.mk (Kd.R_drew HO270.out)
          replace HO273 := Aside0.mk (Kd.R_drew HO273.out)
          replace HO276 := Aside0.mk (Kd.V_drew HO276.out)
          replace HO279 := Aside0.mk (Kd.R_drew HO279.out)
          replace HO282 := Aside0.mk (Kd.R_drew HO282.out)
          replace HO287 := Aside0.mk (Kd.R_drew HO287.out)
          replace HO290 := Aside0.mk (Kd.V_drew HO290.out)
          replace HO293 := Aside0.mk (Kd.R_drew HO293.out)
          replace HO296 := Aside0.mk (Kd.R_drew HO296.out)
          replace BK264 := Aside0.mk (blk_drew BK264.out)
          replace BK284 := Aside0.mk (blk_drew BK284.out)
          replace BK298 := Aside0.mk (blk_drew BK298.out)
          replace HB := Aside0.mk (below_drew1 HB.out)
          have q58 : (1 : Int) ≤ ((t280.length : Int) : Int) := of_decide_eq_true (by first | (with_reducible assumption) | assumption)
          obtain ⟨i058, hi058, _, hsz58, _⟩ := info_parts info33
          have hroom58 : t280.length ≤ co42 := (Kd.R_reads' HO282.out).2.1
          have hC58 : Kd.F (Kd.int .i64) _ _ Ao42 t280.length t280 := (Kd.V_at (base := w.heap.size) (Kd.R_V (Kd.R_types (Kd.R_types (Kd.R_types (Kd.R_apart' (Kd.R_apart' (Kd.R_apart' (Kd.R_apart' (Kd.R_apart' (HO282.out) (Kd.R_typed HO260.out) (by decide)) (Kd.R_typed HO273.out) (by decide)) (Kd.R_typed HO279.out) (by decide)) (Kd.R_typed HO287.out) (by decide)) (Kd.R_typed HO293.out) (by decide)) BK264.out (by decide)) BK284.out (by decide)) BK298.out (by decide)))).2.2
          have hcut58 := cut_from (P := Try.prog) 23 33 .i64 Try.underlying23 hi058 1 hsz58 Ao42 t280.length co42 1 (by omega) q58
          have hr58 := Kd.F_cut (m := (1 : Int).toNat) (c := co42) hC58 (by omega) hroom58
          obtain ⟨A58, hA58⟩ : ∃ A1, A1 = (if co42 = (1 : Int).toNat then Ao42 else (Ao42 : Option Addr).map (·.add ((1 : Int).toNat * 1))) := ⟨_, rfl⟩
          obtain ⟨c58, hc58⟩ : ∃ c1, c1 = co42 - (1 : Int).toNat := ⟨_, rfl⟩
          have hy58 : y299.length = t280.length - (1 : Int).toNat := (by rw [Ny299.out, List.length_drop] <;> omega)
          rw [show (t280).drop (1 : Int).toNat = y299 from Ny299.out.symm] at hr58
          replace hr58 : Kd.F (Kd.int .i64) _ _ A58 y299.length y299 := (by rw [hA58]; exact hr58)
          rw [← hy58, ← hA58, ← hc58] at hcut58
          have HO303 := Aside0.mk (show Kd.V (Kd.int .i64) 33 _ w.heap.size _ (.slice A58 y299.length c58) y299 from Kd.V_mk (by rw [hy58, hc58]; exact Nat.sub_le_sub_right hroom58 _) hr58)
          have HC303 := Aside0.mk (show y299.length ≤ c58 from by rw [hy58, hc58]; exact Nat.sub_le_sub_right hroom58 _)
          clear hr58 hC58 hroom58 hi058 hsz58 hc58
          have KY58 := Aside0.mk hy58
          have KA58 := Aside0.mk hA58
          clear hy58 hA58
          replace q58 := eq_true q58
          refine start_ (n := 25) (S := fun w' => w'.cell? ⟨gb284, 0, none⟩ = some (.slice Ao40 t277.length co40) ∧ w'.cell? ⟨gb284, 1, none⟩ = some (.slice Ao42 t280.length co42) ∧ w'.cell? ⟨gb298, 0, none⟩ = some (.slice Ao52 t291.length co52) ∧ w'.cell? ⟨gb298, 1, none⟩ = some (.slice Ao54 t294.length co54)) (ds := []) #[false, false, false, false, false, false, false, false, false, false, false, false, false, false, false, false, false, false, false, false, false, false, false, false, false] (by kernel_rfl) rfl rfl ⟨(blk_cell BK284.out 0).trans rfl, (blk_cell BK284.out 1).trans rfl, (blk_cell BK298.out 0).trans rfl, (blk_cell BK298.out 1).trans rfl⟩ (fun hHeld => ?_); refine with_tabW carousellaw8_ConvShifts.tab8 carousellaw8_ConvShifts.bits8 (fun HT_ HW_ => ?_)
          generalize w56.drew = w57 at HO260 HO263 HO270 HO273 HO276 HO279 HO282 HO287 HO290 HO293 HO296 BK264 BK284 BK298 HB HO303 hHeld ⊢
          refine zp_ 0 (some 48) (h := ?_)
          refine zp_ 1 (some 49) (h := ?_)
          refine zp_ 2 (some 50) (h := ?_)
          refine zp_ 3 (some 51) (h := ?_)
          refine zp_ 4 (some 52) (h := ?_)
          refine zp_ 5 (some 53) (h := ?_)
          refine zp_ 6 (some 54) (h := ?_)
          refine zp_ 7 (some 55) (h := ?_)
          refine zp_ 10 (some 58) (h := ?_)
          refine zt_ 8 (some 56) (hr := by rintro w' ⟨s0, s1, s2, s3⟩; go_simp; with_reducible rfl) (h := ?_)
          refine zp_ 9 (some 57) (h := ?_)
          refine zt_ 11 (some 59) (hr := by rintro w' ⟨s0, s1, s2, s3⟩; go_simp; with_reducible rfl) (h := ?_)
          refine zp_ 12 (some 60) (h := ?_)
          refine zp_ 13 (some 61) (h := ?_)
          refine zp_ 14 (some 62) (h := ?_)
          refine zp_ 15 (some 63) (h := ?_)
          refine zp_ 16 (some 64) (h := ?_)
          refine zp_ 17 (some 65) (h := ?_)
          refine zt_ 18 (some 66) (hr := by rintro w' ⟨s0, s1, s2, s3⟩; go_simp; with_reducible rfl) (h := ?_)
          refine zp_ 19 (some 67) (h := ?_)
          refine zt_ 21 (some 69) (hr := by rintro w' ⟨s0, s1, s2, s3⟩; go_simp; with_reducible rfl) (h := ?_)
          refine one_ (i := 20) (N := some 68) #[true, true, true, true, true, true, true, true, true, true, true, true, true, true, true, true, true, true, true, true, true, true, false, false, false] rfl rfl (one_of HT_.out (by kernel_rfl)) (by decide) (fun K hK => ?_)
          refine goes_ Try.func17 (by kernel_rfl) rfl #[.int .i64 1, .slice A58 y299.length c58] (by rfl) rfl rfl (by (try simp only [List.map_toArray, List.map_cons, List.map_nil]); first | done | rfl | (simp only [List.length_drop, List.length_take]; rfl)) ?_
          with_reducible refine (carousellaw8_rows.calls 1 (fun k_ => (((((((((some k_ ≠ (v269 : Value).ownBlock ∧ some k_ ≠ (.slice Ao54 t294.length co54 : Value).ownBlock) ∧ some k_ ≠ (.slice Ao25 t258.length co25 : Value).ownBlock) ∧ some k_ ≠ (v272 : Value).ownBlock) ∧ some k_ ≠ (.slice Ao40 t277.length co40 : Value).ownBlock) ∧ some k_ ≠ (v286 : Value).ownBlock) ∧ some k_ ≠ (.slice Ao52 t291.length co52 : Value).ownBlock) ∧ k_ ≠ gb264) ∧ k_ ≠ gb284) ∧ k_ ≠ gb298)) _ _ y299 t304 t307 _ ?side1 A21.out).mono ?_
          (case side1 => exact HO303.out)
          rintro e w59 ⟨v305, v308, rfl, ho0, ho1, hb⟩
          refine ⟨_, rfl, ?_⟩
          replace HO263 := Aside0.mk (Kd.V_elder' (by (with_reducible repeat (first | apply Kd.V_alloc | apply Kd.V_drewN | apply Kd.V_drew)); exact HO263.out) (Kd.R_base ho0) hb)
          replace HO276 := Aside0.mk (Kd.V_elder' (by (with_reducible repeat (first | apply Kd.V_alloc | apply Kd.V_drewN | apply Kd.V_drew)); exact HO276.out) (Kd.R_base ho0) hb)
          replace HO282 := Aside0.mk (Kd.R_below (zr_ HO282.out) hb)
          replace HO290 := Aside0.mk (Kd.V_elder' (by (with_reducible repeat (first | apply Kd.V_alloc | apply Kd.V_drewN | apply Kd.V_drew)); exact HO290.out) (Kd.R_base ho0) hb)
          replace HO303 := Aside0.mk (Kd.V_elder' (by (with_reducible repeat (first | apply Kd.V_alloc | apply Kd.V_drewN | apply Kd.V_drew)); exact HO303.out) (Kd.R_base ho0) hb)
          have HO306 := Aside0.mk (Kd.R_lower (Kd.R_new' (Kd.R_new' (Kd.R_new' (Kd.R_new' (Kd.R_new' (Kd.R_mono (ok' := fun k_ => True) ho0 (fun _ hk_ => trivial)) (Kd.R_lt (zr_ HO260.out))) (Kd.R_lt (zr_ HO273.out))) (Kd.R_lt (zr_ HO279.out))) (Kd.R_lt (zr_ HO287.out))) (Kd.R_lt (zr_ HO293.out))) (below_size (zw3_ HB GE264 GE284 GE298)))
          have HO309 := Aside0.mk (Kd.V_lower (Kd.V_mono (ok' := fun k_ => some k_ ≠ (v305 : Value).ownBlock ∧ some k_ ≠ (.slice Ao25 t258.length co25 : Value).ownBlock ∧ some k_ ≠ (v269 : Value).ownBlock ∧ some k_ ≠ (v272 : Value).ownBlock ∧ some k_ ≠ (.slice Ao40 t277.length co40 : Value).ownBlock ∧ some k_ ≠ (v286 : Value).ownBlock ∧ some k_ ≠ (.slice Ao52 t291.length co52 : Value).ownBlock ∧ some k_ ≠ (.slice Ao54 t294.length co54 : Value).ownBlock ∧ k_ ≠ gb264 ∧ k_ ≠ gb284 ∧ k_ ≠ gb298) ho1 (fun k_ hk_ => ⟨hk_.2, Or.elim hk_.1 (fun hs_ => hs_.1.1.1.1.1.1.1.2) (fun hn_ => (Kd.fresh' (Kd.R_lt (zr_ HO260.out)) k_ hn_)), Or.elim hk_.1 (fun hs_ => hs_.1.1.1.1.1.1.1.1.1) (fun hn_ => (Kd.fresh' (Kd.R_lt (zr_ HO270.out)) k_ hn_)), Or.elim hk_.1 (fun hs_ => hs_.1.1.1.1.1.1.2) (fun hn_ => (Kd.fresh' (Kd.R_lt (zr_ HO273.out)) k_ hn_)), Or.elim hk_.1 (fun hs_ => hs_.1.1.1.1.1.2) (fun hn_ => (Kd.fresh' (Kd.R_lt (zr_ HO279.out)) k_ hn_)), Or.elim hk_.1 (fun hs_ => hs_.1.1.1.1.2) (fun hn_ => (Kd.fresh' (Kd.R_lt (zr_ HO287.out)) k_ hn_)), Or.elim hk_.1 (fun hs_ => hs_.1.1.1.2) (fun hn_ => (Kd.fresh' (Kd.R_lt (zr_ HO293.out)) k_ hn_)), Or.elim hk_.1 (fun hs_ => hs_.1.1.1.1.1.1.1.1.2) (fun hn_ => (Kd.fresh' (Kd.R_lt (zr_ HO296.out)) k_ hn_)), Or.elim hk_.1 (fun hs_ => hs_.1.1.2) (fun hn_ => (Kd.freshB (g := gb264) (o := .cells #[.slice Ao25 t258.length co25, .slice Ao27 t261.length co27] 25 (0, 0)) (zb_ BK264) k_ hn_)), Or.elim hk_.1 (fun hs_ => hs_.1.2) (fun hn_ => (Kd.freshB (g := gb284) (o := .cells #[.slice Ao40 t277.length co40, .slice Ao42 t280.length co42] 25 (0, 0)) (zb_ BK284) k_ hn_)), Or.elim hk_.1 (fun hs_ => hs_.2) (fun hn_ => (Kd.freshB (g := gb298) (o := .cells #[.slice Ao52 t291.length co52, .slice Ao54 t294.length co54] 25 (0, 0)) (zb_ BK298) k_ hn_))⟩)) (below_size (zw3_ HB GE264 GE284 GE298)))
          replace HO260 := Aside0.mk (Kd.R_elder' (zr_ HO260.out) (Kd.R_base ho0) hb)
          replace HO270 := Aside0.mk (Kd.R_below (zr_ HO270.out) hb)
          replace HO273 := Aside0.mk (Kd.R_elder' (zr_ HO273.out) (Kd.R_base ho0) hb)
          replace HO279 := Aside0.mk (Kd.R_elder' (zr_ HO279.out) (Kd.R_base ho0) hb)
          replace HO287 := Aside0.mk (Kd.R_elder' (zr_ HO287.out) (Kd.R_base ho0) hb)
          replace HO293 := Aside0.mk (Kd.R_elder' (zr_ HO293.out) (Kd.R_base ho0) hb)
          replace HO296 := Aside0.mk (Kd.R_below (zr_ HO296.out) hb)
          replace BK264 := Aside0.mk (zl_ BK264 hb)
          replace BK284 := Aside0.mk (zl_ BK284 hb)
          replace BK298 := Aside0.mk (zl_ BK298 hb)
          replace HB := Aside0.mk (below_step (zw3_ HB GE264 GE284 GE298) hb)
          (try clear hb)
          (try clear hb2)
          (try clear hk)
          (try clear hi)
          (try clear ho0)
          (try clear ho1)
          obtain ⟨Ao60, co60, eo60⟩ := Kd.R_slice HO306.out
          (first | subst eo60 | (injection eo60 with f1_ f2_ f3_; have f4_ := f1_.symm; have f5_ := f3_.symm; clear f1_ f2_ f3_; subst f4_; subst f5_))
          obtain ⟨Ao61, co61, eo61⟩ := Kd.V_slice HO309.out
          (first | subst eo61 | (injection eo61 with f1_ f2_ f3_; have f4_ := f1_.symm; have f5_ := f3_.symm; clear f1_ f2_ f3_; subst f4_; subst f5_))
          refine hK.out _ _ ⟨(blk_cell BK284.out 0).trans rfl, (blk_cell BK284.out 1).trans rfl, (blk_cell BK298.out 0).trans rfl, (blk_cell BK298.out 1).trans rfl⟩ (fun hHeld => ?_)
          clear hK K
          refine zq_ (some 68) (h := ?_)
          refine one_ (i := 22) (N := some 70) #[true, true, true, true, true, true, true, true, true, true, true, true, true, true, true, true, true, true, true, true, true, true, true, false, false] rfl rfl (one_of HT_.out (by kernel_rfl)) (by decide) (fun K hK => ?_)
          refine goes_ Try.func15 (by kernel_rfl) rfl #[.agg #[.slice Ao60 t304.length co60, .slice Ao61 t307.length co61], .agg #[.slice Ao52 t291.length co52, .slice Ao54 t294.length co54]] (by rfl) rfl rfl (by (try simp only [List.map_toArray, List.map_cons, List.map_nil]); first | done | rfl | (simp only [List.length_drop, List.length_take]; rfl)) ?_
          with_reducible refine (carouselref5_Alike.calls kj5 _ _ t304 _ _ t307 _ _ t291 _ _ t294 t310 _ ?side1 ?side2 ?side3 ?side4 ?side5 ?side6 ?side7 ?side8 A22.out).mono ?_
          (case side1 => exact zk_ ((Kd.R_reads' HO306.out).2.2))
          (case side2 => exact (Kd.R_reads' HO306.out).2.1)
          (case side3 => repeat (first | exact (Kd.V_reads' HO309.out).2.2 | (with_reducible refine Kd.C_alloc ?_ _) | (with_reducible refine Kd.C_drewN ?_ _) | (with_reducible refine Kd.C_drew ?_)))
          (case side4 => exact (Kd.V_reads' HO309.out).2.1)
          (case side5 => exact zk_ ((Kd.R_reads' HO293.out).2.2))
          (case side6 => exact (Kd.R_reads' HO293.out).2.1)
          (case side7 => exact zk_ ((Kd.R_reads' HO296.out).2.2))
          (case side8 => exact (Kd.R_reads' HO296.out).2.1)
          rintro e w62 ⟨rfl, hb⟩
          refine ⟨_, rfl, ?_⟩
          replace HO260 := Aside0.mk (Kd.R_below (zr_ HO260.out) hb)
          replace HO263 := Aside0.mk (Kd.V_below (by (with_reducible repeat (first | apply Kd.V_alloc | apply Kd.V_drewN | apply Kd.V_drew)); exact HO263.out) hb)
          replace HO270 := Aside0.mk (Kd.R_below (zr_ HO270.out) hb)
          replace HO273 := Aside0.mk (Kd.R_below (zr_ HO273.out) hb)
          replace HO276 := Aside0.mk (Kd.V_below (by (with_reducible repeat (first | apply Kd.V_alloc | apply Kd.V_drewN | apply Kd.V_drew)); exact HO276.out) hb)
          replace HO279 := Aside0.mk (Kd.R_below (zr_ HO279.out) hb)
          replace HO282 := Aside0.mk (Kd.R_below (zr_ HO282.out) hb)
          replace HO287 := Aside0.mk (Kd.R_below (zr_ HO287.out) hb)
          replace HO290 := Aside0.mk (Kd.V_below (by (with_reducible repeat (first | apply Kd.V_alloc | apply Kd.V_drewN | apply Kd.V_drew)); exact HO290.out) hb)
          replace HO293 := Aside0.mk (Kd.R_below (zr_ HO293.out) hb)
          replace HO296 := Aside0.mk (Kd.R_below (zr_ HO296.out) hb)
          replace HO303 := Aside0.mk (Kd.V_below (by (with_reducible repeat (first | apply Kd.V_alloc | apply Kd.V_drewN | apply Kd.V_drew)); exact HO303.out) hb)
          replace HO306 := Aside0.mk (Kd.R_below (zr_ HO306.out) hb)
          replace HO309 := Aside0.mk (Kd.V_below (by (with_reducible repeat (first | apply Kd.V_alloc | apply Kd.V_drewN | apply Kd.V_drew)); exact HO309.out) hb)
          replace BK264 := Aside0.mk (zl_ BK264 hb)
          replace BK284 := Aside0.mk (zl_ BK284 hb)
          replace BK298 := Aside0.mk (zl_ BK298 hb)
          replace HB := Aside0.mk (below_step (zw3_ HB GE264 GE284 GE298) hb)
          (try clear hb)
          (try clear hb2)
          (try clear hk)
          (try clear hi)
          refine hK.out _ _ ⟨(blk_cell BK284.out 0).trans rfl, (blk_cell BK284.out 1).trans rfl, (blk_cell BK298.out 0).trans rfl, (blk_cell BK298.out 1).trans rfl⟩ (fun hHeld => ?_)
          clear hK K
          refine zq_ (some 70) (h := ?_)
          refine zp_ 23 (some 71) (h := ?_)
          refine zp_ 24 (some 6) (h := ?_)
          refine done_ (done_of HT_.out (by kernel_rfl)) ?_
          try go_wp2
          go_ret
          exact ⟨by first | rfl | (simp [errW_none, errW_some] <;> rfl) | (simp [*, errW_none, errW_some] <;> rfl), zw3_ HB GE264 GE284 GE298⟩
         ·rw [if_neg c20] at H
          exact absurd H (by simp)
        ·rw [if_neg c19] at H
         have c19b0 : ((t280.length : Int) == (wrap64 ((t294.length : Int) + 1))) = false := beq_eq_false_iff_ne.mpr c19
         have c19b1 : ((t280.length : Int) != (wrap64 ((t294.length : Int) + 1))) = true := bne_iff_ne.mpr c19
         exact absurd H (by simp)
       ·rw [if_neg c18] at H
        have c18b0 : (t297 == 0) = false := beq_eq_false_iff_ne.mpr c18
        have c18b1 : (t297 != 0) = true := bne_iff_ne.mpr c18
        exact absurd H (by simp)
      ·rw [if_neg c17] at H
       have c17b0 : (t283 == 0) = false := beq_eq_false_iff_ne.mpr c17
       have c17b1 : (t283 != 0) = true := bne_iff_ne.mpr c17
       exact absurd H (by simp)
     ·rw [if_neg c12] at H
      exact absurd H (by simp)
 ·replace c5 := Bool.eq_false_iff.mpr c5
  subst c5
  have H1 : (none) = some r := by rw [if_neg (show ¬ (false = true) by decide)] at H; exact H
  clear H
  have H := H1
  clear H1
  exact absurd H (by simp)

/-- THE ONE PURE STATEMENT of carousellaw8_ConvShifts: yours. -/
def carousellaw8_ConvShifts.Pure : Prop := ∀ (a0 : Int) (l1 : List Int) (l2 : List Int), (Lit.int .i64 a0).wf = true → l1.length ≤ maxLen → l1.length * 8 ≤ 140737488351232 → (∀ x ∈ l1, (Lit.int .i64 x).wf = true) → l2.length ≤ maxLen → l2.length * 8 ≤ 140737488351232 → (∀ x ∈ l2, (Lit.int .i64 x).wf = true) → ∃ k, carousellaw8_ConvShifts.f k a0 l1 l2 = some true
theorem carousellaw8_ConvShifts.walk (P : carousellaw8_ConvShifts.Pure) (a0 : Int) (a1 : Option Addr) (len1 cap1 : Nat) (z1 : List Int) (a2 : Option Addr) (len2 cap2 : Nat) (z2 : List Int) (w : World) (w0 : (Lit.int .i64 a0).wf = true) (w1 : (a1 = none ∧ len1 = 0 ∧ cap1 = 0 ∧ z1 = []) ∨ ∃ x, a1 = some x ∧ len1 ≤ cap1 ∧ cap1 ≤ maxLen ∧ z1.length = cap1 ∧ (∀ i, i < z1.length → w.cell? (x.add i) = some (.int .i64 (z1.getD i 0))) ∧ ∀ n ∈ z1, (Lit.int .i64 n).wf = true) (y1 : len1 * 8 ≤ 140737488351232) (w2 : (a2 = none ∧ len2 = 0 ∧ cap2 = 0 ∧ z2 = []) ∨ ∃ x, a2 = some x ∧ len2 ≤ cap2 ∧ cap2 ≤ maxLen ∧ z2.length = cap2 ∧ (∀ i, i < z2.length → w.cell? (x.add i) = some (.int .i64 (z2.getD i 0))) ∧ ∀ n ∈ z2, (Lit.int .i64 n).wf = true) (y2 : len2 * 8 ≤ 140737488351232) :
  Calls Try.prog 4 #[.int .i64 a0, .slice a1 len1 cap1, .slice a2 len2 cap2] w fun e w' => e = .returned (.bool true) ∧ Below w.heap.size w w' := by
 obtain ⟨l1, rfl, hr1, hm1, hw1, hc1⟩ := ReadsInt.ofRowC w1
 obtain ⟨l2, rfl, hr2, hm2, hw2, hc2⟩ := ReadsInt.ofRowC w2
 obtain ⟨k, h⟩ := P a0 l1 l2 w0 hm1 y1 hw1 hm2 y2 hw2
 refine (carousellaw8_ConvShifts.calls k a0 _ _ l1 _ _ l2 true w (Kd.C_of_reads (d := (0 : Int)) (h1 := fun _ => rfl) hr1) hc1 (Kd.C_of_reads (d := (0 : Int)) (h1 := fun _ => rfl) hr2) hc2 h).mono ?_
 rintro e w' ⟨rfl, hd⟩
 exact ⟨rfl, hd⟩

end Go.Proofs.Ytcipfhlcgnomaaa.PConvShifts
