/- The functions that the law FixReckons reaches, as Lean functions, and that each call of the Go function does what its Lean function says, wherever that one answers. Written by a program of mine over the print of the kit; Lean checks it. -/
import Derived.Test.YtjiloachlemlcaaDoorPFixReckonsx0
import Derived.Test.YtjiloachlemlcaaDoorPFixReckonsx1
import Derived.Test.YtjiloachlemlcaaDoorPFixReckonsx3
import Derived.Test.YtjiloachlemlcaaDoorPFixReckonsx4
namespace Go.Proofs.YtjiloachlemlcaaDoor.PFixReckons
open Go.RowKit Go.Proofs.YtjiloachlemlcaaDoorW.PrintWords Go.Proofs.YtjiloachlemlcaaDoorW.PrintLast Go.Proofs.YtjiloachlemlcaaDoorW.PrintMore
attribute [local go_sem] max2_int min2_int max_two min_two max_three min_three max_four min_four   -- for this text's walks alone
set_option linter.unusedVariables false
set_option linter.unusedSimpArgs false

/-! ### carousellaw1_awake: function 11 -/
def carousellaw1_awake.f (k : Nat)  : Option (Bool) := (fix_Mul.f k 4294967296 4294967296).bind fun t156 => (if t156 = 4294967296 then ((fix_Of.f 3).bind fun t157 => ((fix_Div.f k 4294967296 t157).bind fun t158 => (if t158 = 1431655765 then ((fix_Text.f k 4294967296).bind fun t159 => (some (t159.toList == ([49, 46, 48, 48, 48, 48, 48, 48, 48, 48, 48, 48] : List UInt8)))) else (none)))) else (none))
theorem carousellaw1_awake.mono : ∀ k, LeO (carousellaw1_awake.f k ) (carousellaw1_awake.f (k + 1) ) := by
 intro  k
 unfold carousellaw1_awake.f
 repeat' first
   | (with_reducible exact fix_Div.mono _ _ _)
   | (with_reducible exact fix_Mul.mono _ _ _)
   | (with_reducible exact fix_Text.mono _ _)
   | (with_reducible exact LeO.refl _)
   | (with_reducible exact LeO.none _)
   | (with_reducible refine LeO.ite ?_ ?_)
   | (with_reducible refine LeO.bind ?_ (fun _ => ?_))
   | exact fix_Div.mono _ _ _
   | exact fix_Mul.mono _ _ _
   | exact fix_Text.mono _ _
   | exact LeO.none _
   | refine LeO.ite ?_ ?_
   | refine LeO.bind ?_ (fun _ => ?_)
set_option maxHeartbeats 8000000 in
set_option maxRecDepth 100000 in
theorem carousellaw1_awake.calls (k : Nat)  (r : Bool) (w : World) (h : carousellaw1_awake.f k  = some r) :
  Calls Tryd.prog 11 #[] w fun e w' => e = .returned (.bool r) ∧ Below w.heap.size w w' := by
 have HB := Aside0.mk (Below.refl w.heap.size w)
 have H : ((fix_Mul.f k 4294967296 4294967296).bind fun t156 => (if t156 = 4294967296 then ((fix_Of.f 3).bind fun t157 => ((fix_Div.f k 4294967296 t157).bind fun t158 => (if t158 = 1431655765 then ((fix_Text.f k 4294967296).bind fun t159 => (some (t159.toList == ([49, 46, 48, 48, 48, 48, 48, 48, 48, 48, 48, 48] : List UInt8)))) else (none)))) else (none))) = some r := h
 clear h
 replace H := Option.bind_eq_some_iff.mp H
 obtain ⟨t156, A10, H⟩ := H
 (try dsimp only at H)
 have A1 := Aside0.mk A10
 clear A10
 by_cases c2 : t156 = 4294967296
 ·rw [if_pos c2] at H
  have c2b0 : (t156 == 4294967296) = true := beq_iff_eq.mpr c2
  have c2b1 : (t156 != 4294967296) = false := bne_eq_false_iff_eq.mpr c2
  clear c2
  replace H := Option.bind_eq_some_iff.mp H
  obtain ⟨t157, A30, H⟩ := H
  (try dsimp only at H)
  have A3 := Aside0.mk A30
  clear A30
  replace H := Option.bind_eq_some_iff.mp H
  obtain ⟨t158, A40, H⟩ := H
  (try dsimp only at H)
  have A4 := Aside0.mk A40
  clear A40
  by_cases c5 : t158 = 1431655765
  ·rw [if_pos c5] at H
   have c5b0 : (t158 == 1431655765) = true := beq_iff_eq.mpr c5
   have c5b1 : (t158 != 1431655765) = false := bne_eq_false_iff_eq.mpr c5
   clear c5
   replace H := Option.bind_eq_some_iff.mp H
   obtain ⟨t159, A60, H⟩ := H
   replace H : (some (t159.toList == ([49, 46, 48, 48, 48, 48, 48, 48, 48, 48, 48, 48] : List UInt8))) = some r := H
   have A6 := Aside0.mk A60
   clear A60
   obtain rfl := Option.some.inj H
   go_enter Tryd.func11, Tryd.ntmps11
   go_wp2_with (first | ((with_reducible refine gate_callee (f := 16) rfl ?_); refine zg_ (some 1) Tryd.func16 #[.int .i64 4294967296, .int .i64 4294967296] (h := ?_); (with_reducible refine (fix_Mul.calls k 4294967296 4294967296 t156 _ A1.out).mono ?_); rintro e w' ⟨rfl, ⟨nd, rfl⟩⟩; refine ⟨_, rfl, ?_⟩) | (go_at_call 12; (with_reducible refine (fix_Of.calls 3 t157 _ A3.out).mono ?_); rintro e w' ⟨rfl, ⟨nd, rfl⟩⟩) | (go_at_call 19; (with_reducible refine (fix_Div.calls k 4294967296 t157 t158 _ A4.out).mono ?_); rintro e w' ⟨rfl, ⟨nd, rfl⟩⟩) | (go_at_call 14; (with_reducible refine (fix_Text.calls k 4294967296 t159 _ A6.out).mono ?_); rintro e w7 ⟨rfl, hb⟩; replace HB := Aside0.mk (below_step (zw0_ HB) hb); (try clear hb)))
   go_ret
   exact ⟨by first | rfl | (simp [errW_none, errW_some] <;> rfl) | (simp [*, errW_none, errW_some] <;> rfl), zw0_ HB⟩
  ·rw [if_neg c5] at H
   exact absurd H (by simp)
 ·rw [if_neg c2] at H
  exact absurd H (by simp)

/-! ### fix_Add: function 17 -/
def fix_Add.j0 : Nat → Int → Int → Bool → Option (Int)
 | 0, _, _, _ => none
 | k + 1, x0, x5, x20 => if x20 = true then (some x5) else (if x0 < 0 then (some (-9223372036854775808)) else (some 9223372036854775807))
def fix_Add.f (k : Nat) (a0 : Int) (a1 : Int) : Option (Int) := if ((decide (a0 < 0)) != (decide (a1 < 0))) = true then (fix_Add.j0 k a0 (wrap64 (a0 + a1)) true) else (fix_Add.j0 k a0 (wrap64 (a0 + a1)) ((decide ((wrap64 (a0 + a1)) < 0)) == (decide (a0 < 0))))
theorem fix_Add.mono_l : ∀ k, (∀ y0 y1 y2, LeO (fix_Add.j0 k y0 y1 y2) (fix_Add.j0 (k + 1) y0 y1 y2))
 | 0 => fun _ _ _ r h => by simp [fix_Add.j0] at h
 | k + 1 => by
  have ih0 := fix_Add.mono_l k
  ·intro y0 y1 y2
   unfold fix_Add.j0
   repeat' first
   | (with_reducible exact ih0 _ _ _)
   | (with_reducible exact LeO.refl _)
   | (with_reducible exact LeO.none _)
   | (with_reducible refine LeO.ite ?_ ?_)
   | (with_reducible refine LeO.bind ?_ (fun _ => ?_))
   | exact ih0 _ _ _
   | exact LeO.none _
   | refine LeO.ite ?_ ?_
   | refine LeO.bind ?_ (fun _ => ?_)
theorem fix_Add.mono : ∀ a0 a1 k, LeO (fix_Add.f k a0 a1) (fix_Add.f (k + 1) a0 a1) := by
 intro a0 a1 k
 have ih0 := fix_Add.mono_l k
 unfold fix_Add.f
 repeat' first
   | (with_reducible exact ih0 _ _ _)
   | (with_reducible exact LeO.refl _)
   | (with_reducible exact LeO.none _)
   | (with_reducible refine LeO.ite ?_ ?_)
   | (with_reducible refine LeO.bind ?_ (fun _ => ?_))
   | exact ih0 _ _ _
   | exact LeO.none _
   | refine LeO.ite ?_ ?_
   | refine LeO.bind ?_ (fun _ => ?_)
set_option maxHeartbeats 8000000 in
set_option maxRecDepth 100000 in
theorem fix_Add.calls (k : Nat) (a0 : Int) (a1 : Int) (r : Int) (w : World) (h : fix_Add.f k a0 a1 = some r) :
  Calls Tryd.prog 17 #[.int .i64 a0, .int .i64 a1] w fun e w' => e = .returned (.int .i64 r) ∧ Drawn0 w w' := by
 have H : (if ((decide (a0 < 0)) != (decide (a1 < 0))) = true then (fix_Add.j0 k a0 (wrap64 (a0 + a1)) true) else (fix_Add.j0 k a0 (wrap64 (a0 + a1)) ((decide ((wrap64 (a0 + a1)) < 0)) == (decide (a0 < 0))))) = some r := h
 clear h
 have HC3 := Aside0.mk H
 clear H
 go_enter Tryd.func17, Tryd.ntmps17
 go_upto_region 2 with (fail)
 go_cut [20] (fun v20 wc => ∃ (kq : Nat) (x20_2 : Bool), v20 = .bool x20_2 ∧ Aside0 (fix_Add.j0 kq a0 (wrap64 (a0 + a1)) x20_2 = some r) ∧ Aside0 (kq ≤ k) ∧ Drawn0 w wc)
 case first =>
  have H := HC3.out
  clear HC3
  by_cases c4 : ((decide (a0 < 0)) != (decide (a1 < 0))) = true
  ·rw [if_pos c4] at H
   have c4b0 : ((decide (a0 < 0)) != (decide (a1 < 0))) = true := c4
   (try (have c4b1 : decide ((decide (a0 < 0)) = (decide (a1 < 0))) = false := by simpa using c4))
   (try (have c4b2 : ((decide (a0 < 0)) == (decide (a1 < 0))) = false := by simpa using c4))
   (try (have c4b3 : ¬ ((decide (a0 < 0)) = (decide (a1 < 0))) := by simpa using c4))
   clear c4
   (first | rw [c4b0] | (simp only [i64_w, i32_w]; rw [c4b0]) | skip)
   have H' := Aside0.mk H
   clear H
   go_wp2
   go_meet
   case rel => exact ⟨_, (true), (by first | rfl | (simp; done) | (simp [*]; done)), H', ⟨by first | omega | exact Nat.le_refl _⟩, by repeat (first | exact Drawn0.refl _ | apply Drawn0.step)⟩
  ·rw [if_neg c4] at H
   have c4b0 : ((decide (a0 < 0)) != (decide (a1 < 0))) = false := by simpa using c4
   (try (have c4b1 : decide ((decide (a0 < 0)) = (decide (a1 < 0))) = true := by simpa using c4))
   (try (have c4b2 : ((decide (a0 < 0)) == (decide (a1 < 0))) = true := by simpa using c4))
   clear c4
   (first | rw [c4b0] | (simp only [i64_w, i32_w]; rw [c4b0]) | skip)
   have H' := Aside0.mk H
   clear H
   go_wp2
   go_meet
   case rel => exact ⟨_, (((decide ((wrap64 (a0 + a1)) < 0)) == (decide (a0 < 0)))), (by first | rfl | (simp; done) | (simp [*]; done)), H', ⟨by first | omega | exact Nat.le_refl _⟩, by repeat (first | exact Drawn0.refl _ | apply Drawn0.step)⟩
 case rest =>
  clear HC3
  try clear c1
  try clear p2
  try clear c4
  try clear c4b0
  try clear c4b1
  try clear c4b2
  obtain ⟨kq, x20_2, rfl, HA, HJ2, ⟨mc2, rfl⟩⟩ := hcut
  cases kq with
  | zero => exact absurd HA.out (by simp [fix_Add.j0])
  | succ kj2 =>
   have H := HA.out
   clear HA
   simp only [fix_Add.j0] at H
   by_cases c5 : x20_2 = true
   ·subst c5
    have H1 : (some (wrap64 (a0 + a1))) = some r := by rw [if_pos rfl] at H; exact H
    clear H
    have H := H1
    clear H1
    obtain rfl := Option.some.inj H
    go_wp2
    go_ret
    exact ⟨by first | rfl | (simp; done) | (simp [*]; done), by repeat (first | exact Drawn0.refl _ | apply Drawn0.step)⟩
   ·replace c5 := Bool.eq_false_iff.mpr c5
    subst c5
    have H1 := H
    rw [if_neg (show ¬ (false = true) by decide)] at H1
    clear H
    have H := H1
    clear H1
    by_cases c6 : a0 < 0
    ·rw [if_pos c6] at H
     have c6b0 : decide (a0 < 0) = true := decide_eq_true c6
     clear c6
     obtain rfl := Option.some.inj H
     go_wp2
     go_ret
     exact ⟨by first | rfl | (simp; done) | (simp [*]; done), by repeat (first | exact Drawn0.refl _ | apply Drawn0.step)⟩
    ·rw [if_neg c6] at H
     have c6b0 : decide (a0 < 0) = false := decide_eq_false c6
     clear c6
     obtain rfl := Option.some.inj H
     go_wp2
     go_ret
     exact ⟨by first | rfl | (simp; done) | (simp [*]; done), by repeat (first | exact Drawn0.refl _ | apply Drawn0.step)⟩

/-! ### fix_Sub: function 18 -/
def fix_Sub.j0 : Nat → Int → Int → Bool → Option (Int)
 | 0, _, _, _ => none
 | k + 1, x0, x5, x20 => if x20 = true then (some x5) else (if x0 < 0 then (some (-9223372036854775808)) else (some 9223372036854775807))
def fix_Sub.f (k : Nat) (a0 : Int) (a1 : Int) : Option (Int) := if ((decide (a0 < 0)) == (decide (a1 < 0))) = true then (fix_Sub.j0 k a0 (wrap64 (a0 - a1)) true) else (fix_Sub.j0 k a0 (wrap64 (a0 - a1)) ((decide ((wrap64 (a0 - a1)) < 0)) == (decide (a0 < 0))))
theorem fix_Sub.mono_l : ∀ k, (∀ y0 y1 y2, LeO (fix_Sub.j0 k y0 y1 y2) (fix_Sub.j0 (k + 1) y0 y1 y2))
 | 0 => fun _ _ _ r h => by simp [fix_Sub.j0] at h
 | k + 1 => by
  have ih0 := fix_Sub.mono_l k
  ·intro y0 y1 y2
   unfold fix_Sub.j0
   repeat' first
   | (with_reducible exact ih0 _ _ _)
   | (with_reducible exact LeO.refl _)
   | (with_reducible exact LeO.none _)
   | (with_reducible refine LeO.ite ?_ ?_)
   | (with_reducible refine LeO.bind ?_ (fun _ => ?_))
   | exact ih0 _ _ _
   | exact LeO.none _
   | refine LeO.ite ?_ ?_
   | refine LeO.bind ?_ (fun _ => ?_)
theorem fix_Sub.mono : ∀ a0 a1 k, LeO (fix_Sub.f k a0 a1) (fix_Sub.f (k + 1) a0 a1) := by
 intro a0 a1 k
 have ih0 := fix_Sub.mono_l k
 unfold fix_Sub.f
 repeat' first
   | (with_reducible exact ih0 _ _ _)
   | (with_reducible exact LeO.refl _)
   | (with_reducible exact LeO.none _)
   | (with_reducible refine LeO.ite ?_ ?_)
   | (with_reducible refine LeO.bind ?_ (fun _ => ?_))
   | exact ih0 _ _ _
   | exact LeO.none _
   | refine LeO.ite ?_ ?_
   | refine LeO.bind ?_ (fun _ => ?_)
set_option maxHeartbeats 8000000 in
set_option maxRecDepth 100000 in
theorem fix_Sub.calls (k : Nat) (a0 : Int) (a1 : Int) (r : Int) (w : World) (h : fix_Sub.f k a0 a1 = some r) :
  Calls Tryd.prog 18 #[.int .i64 a0, .int .i64 a1] w fun e w' => e = .returned (.int .i64 r) ∧ Drawn0 w w' := by
 have H : (if ((decide (a0 < 0)) == (decide (a1 < 0))) = true then (fix_Sub.j0 k a0 (wrap64 (a0 - a1)) true) else (fix_Sub.j0 k a0 (wrap64 (a0 - a1)) ((decide ((wrap64 (a0 - a1)) < 0)) == (decide (a0 < 0))))) = some r := h
 clear h
 have HC3 := Aside0.mk H
 clear H
 go_enter Tryd.func18, Tryd.ntmps18
 go_upto_region 2 with (fail)
 go_cut [20] (fun v20 wc => ∃ (kq : Nat) (x20_2 : Bool), v20 = .bool x20_2 ∧ Aside0 (fix_Sub.j0 kq a0 (wrap64 (a0 - a1)) x20_2 = some r) ∧ Aside0 (kq ≤ k) ∧ Drawn0 w wc)
 case first =>
  have H := HC3.out
  clear HC3
  by_cases c4 : ((decide (a0 < 0)) == (decide (a1 < 0))) = true
  ·rw [if_pos c4] at H
   have c4b0 : ((decide (a0 < 0)) == (decide (a1 < 0))) = true := c4
   (try (have c4b1 : decide ((decide (a0 < 0)) = (decide (a1 < 0))) = true := by simpa using c4))
   (try (have c4b2 : ((decide (a0 < 0)) == (decide (a1 < 0))) = true := by simpa using c4))
   clear c4
   (first | rw [c4b0] | (simp only [i64_w, i32_w]; rw [c4b0]) | skip)
   have H' := Aside0.mk H
   clear H
   go_wp2
   go_meet
   case rel => exact ⟨_, (true), (by first | rfl | (simp; done) | (simp [*]; done)), H', ⟨by first | omega | exact Nat.le_refl _⟩, by repeat (first | exact Drawn0.refl _ | apply Drawn0.step)⟩
  ·rw [if_neg c4] at H
   have c4b0 : ((decide (a0 < 0)) == (decide (a1 < 0))) = false := by simpa using c4
   (try (have c4b1 : decide ((decide (a0 < 0)) = (decide (a1 < 0))) = false := by simpa using c4))
   (try (have c4b2 : ((decide (a0 < 0)) == (decide (a1 < 0))) = false := by simpa using c4))
   (try (have c4b3 : ¬ ((decide (a0 < 0)) = (decide (a1 < 0))) := by simpa using c4))
   clear c4
   (first | rw [c4b0] | (simp only [i64_w, i32_w]; rw [c4b0]) | skip)
   have H' := Aside0.mk H
   clear H
   go_wp2
   go_meet
   case rel => exact ⟨_, (((decide ((wrap64 (a0 - a1)) < 0)) == (decide (a0 < 0)))), (by first | rfl | (simp; done) | (simp [*]; done)), H', ⟨by first | omega | exact Nat.le_refl _⟩, by repeat (first | exact Drawn0.refl _ | apply Drawn0.step)⟩
 case rest =>
  clear HC3
  try clear c1
  try clear p2
  try clear c4
  try clear c4b0
  try clear c4b1
  try clear c4b2
  obtain ⟨kq, x20_2, rfl, HA, HJ2, ⟨mc2, rfl⟩⟩ := hcut
  cases kq with
  | zero => exact absurd HA.out (by simp [fix_Sub.j0])
  | succ kj2 =>
   have H := HA.out
   clear HA
   simp only [fix_Sub.j0] at H
   by_cases c5 : x20_2 = true
   ·subst c5
    have H1 : (some (wrap64 (a0 - a1))) = some r := by rw [if_pos rfl] at H; exact H
    clear H
    have H := H1
    clear H1
    obtain rfl := Option.some.inj H
    go_wp2
    go_ret
    exact ⟨by first | rfl | (simp; done) | (simp [*]; done), by repeat (first | exact Drawn0.refl _ | apply Drawn0.step)⟩
   ·replace c5 := Bool.eq_false_iff.mpr c5
    subst c5
    have H1 := H
    rw [if_neg (show ¬ (false = true) by decide)] at H1
    clear H
    have H := H1
    clear H1
    by_cases c6 : a0 < 0
    ·rw [if_pos c6] at H
     have c6b0 : decide (a0 < 0) = true := decide_eq_true c6
     clear c6
     obtain rfl := Option.some.inj H
     go_wp2
     go_ret
     exact ⟨by first | rfl | (simp; done) | (simp [*]; done), by repeat (first | exact Drawn0.refl _ | apply Drawn0.step)⟩
    ·rw [if_neg c6] at H
     have c6b0 : decide (a0 < 0) = false := decide_eq_false c6
     clear c6
     obtain rfl := Option.some.inj H
     go_wp2
     go_ret
     exact ⟨by first | rfl | (simp; done) | (simp [*]; done), by repeat (first | exact Drawn0.refl _ | apply Drawn0.step)⟩

/-! ### fix_Neg: function 20 -/
def fix_Neg.f (a0 : Int) : Option (Int) := if a0 = (-9223372036854775808) then (some 9223372036854775807) else (some (wrap64 (-a0)))
set_option maxHeartbeats 8000000 in
set_option maxRecDepth 100000 in
theorem fix_Neg.calls (a0 : Int) (r : Int) (w : World) (h : fix_Neg.f a0 = some r) :
  Calls Tryd.prog 20 #[.int .i64 a0] w fun e w' => e = .returned (.int .i64 r) ∧ Drawn0 w w' := by
 have H : (if a0 = (-9223372036854775808) then (some 9223372036854775807) else (some (wrap64 (-a0)))) = some r := h
 clear h
 by_cases c2 : a0 = (-9223372036854775808)
 ·rw [if_pos c2] at H
  have c2b0 : (a0 == (-9223372036854775808)) = true := beq_iff_eq.mpr c2
  have c2b1 : (a0 != (-9223372036854775808)) = false := bne_eq_false_iff_eq.mpr c2
  clear c2
  obtain rfl := Option.some.inj H
  go_enter Tryd.func20, Tryd.ntmps20
  go_wp2
  go_ret
  exact ⟨by first | rfl | (simp; done) | (simp [*]; done), by repeat (first | exact Drawn0.refl _ | apply Drawn0.step)⟩
 ·rw [if_neg c2] at H
  have c2b0 : (a0 == (-9223372036854775808)) = false := beq_eq_false_iff_ne.mpr c2
  have c2b1 : (a0 != (-9223372036854775808)) = true := bne_iff_ne.mpr c2
  obtain rfl := Option.some.inj H
  go_enter Tryd.func20, Tryd.ntmps20
  go_wp2
  go_ret
  exact ⟨by first | rfl | (simp; done) | (simp [*]; done), by repeat (first | exact Drawn0.refl _ | apply Drawn0.step)⟩

/-! ### fix_Cmp: function 21 -/
def fix_Cmp.f (a0 : Int) (a1 : Int) : Option (Int) := if a0 < a1 then (some (-1)) else (if a0 > a1 then (some 1) else (some 0))
set_option maxHeartbeats 8000000 in
set_option maxRecDepth 100000 in
theorem fix_Cmp.calls (a0 : Int) (a1 : Int) (r : Int) (w : World) (h : fix_Cmp.f a0 a1 = some r) :
  Calls Tryd.prog 21 #[.int .i64 a0, .int .i64 a1] w fun e w' => e = .returned (.int .i64 r) ∧ Drawn0 w w' := by
 have H : (if a0 < a1 then (some (-1)) else (if a0 > a1 then (some 1) else (some 0))) = some r := h
 clear h
 by_cases c3 : a0 < a1
 ·rw [if_pos c3] at H
  have c3b0 : decide (a0 < a1) = true := decide_eq_true c3
  clear c3
  obtain rfl := Option.some.inj H
  go_enter Tryd.func21, Tryd.ntmps21
  go_wp2
  go_ret
  exact ⟨by first | rfl | (simp; done) | (simp [*]; done), by repeat (first | exact Drawn0.refl _ | apply Drawn0.step)⟩
 ·rw [if_neg c3] at H
  have c3b0 : decide (a0 < a1) = false := decide_eq_false c3
  clear c3
  by_cases c4 : a0 > a1
  ·rw [if_pos c4] at H
   have c4b0 : decide (a1 < a0) = true := decide_eq_true c4
   clear c4
   obtain rfl := Option.some.inj H
   go_enter Tryd.func21, Tryd.ntmps21
   go_wp2
   go_ret
   exact ⟨by first | rfl | (simp; done) | (simp [*]; done), by repeat (first | exact Drawn0.refl _ | apply Drawn0.step)⟩
  ·rw [if_neg c4] at H
   have c4b0 : decide (a1 < a0) = false := decide_eq_false c4
   clear c4
   obtain rfl := Option.some.inj H
   go_enter Tryd.func21, Tryd.ntmps21
   go_wp2
   go_ret
   exact ⟨by first | rfl | (simp; done) | (simp [*]; done), by repeat (first | exact Drawn0.refl _ | apply Drawn0.step)⟩

/-! ### carouselref1_Held: function 29 -/
def carouselref1_Held.j0 : Nat → Bool → Bool → Int → Int → Int → Int → Option (Int)
 | 0, _, _, _, _, _, _ => none
 | k + 1, x20, x161000, x161001, x161002, x161003, x161004 => if x20 = true then (if x161000 = true then (some (-9223372036854775808)) else (some 9223372036854775807)) else (if x161000 = true then (some (wrap64 (-(wrap64 (x161001))))) else (some (wrap64 (x161001))))
def carouselref1_Held.f (k : Nat) (a0_0 : Bool) (a0_1 : Int) (a0_2 : Int) (a0_3 : Int) (a0_4 : Int) : Option (Int) := if (Go.bits .or .u64 (Go.bits .or .u64 a0_2 a0_3) a0_4) = 0 then (carouselref1_Held.j0 k (decide (a0_1 ≥ 9223372036854775808)) a0_0 a0_1 a0_2 a0_3 a0_4) else (carouselref1_Held.j0 k true a0_0 a0_1 a0_2 a0_3 a0_4)
theorem carouselref1_Held.mono_l : ∀ k, (∀ y0 y1 y2 y3 y4 y5, LeO (carouselref1_Held.j0 k y0 y1 y2 y3 y4 y5) (carouselref1_Held.j0 (k + 1) y0 y1 y2 y3 y4 y5))
 | 0 => fun _ _ _ _ _ _ r h => by simp [carouselref1_Held.j0] at h
 | k + 1 => by
  have ih0 := carouselref1_Held.mono_l k
  ·intro y0 y1 y2 y3 y4 y5
   unfold carouselref1_Held.j0
   repeat' first
   | (with_reducible exact ih0 _ _ _ _ _ _)
   | (with_reducible exact LeO.refl _)
   | (with_reducible exact LeO.none _)
   | (with_reducible refine LeO.ite ?_ ?_)
   | (with_reducible refine LeO.bind ?_ (fun _ => ?_))
   | exact ih0 _ _ _ _ _ _
   | exact LeO.none _
   | refine LeO.ite ?_ ?_
   | refine LeO.bind ?_ (fun _ => ?_)
theorem carouselref1_Held.mono : ∀ a0 a1 a2 a3 a4 k, LeO (carouselref1_Held.f k a0 a1 a2 a3 a4) (carouselref1_Held.f (k + 1) a0 a1 a2 a3 a4) := by
 intro a0 a1 a2 a3 a4 k
 have ih0 := carouselref1_Held.mono_l k
 unfold carouselref1_Held.f
 repeat' first
   | (with_reducible exact ih0 _ _ _ _ _ _)
   | (with_reducible exact LeO.refl _)
   | (with_reducible exact LeO.none _)
   | (with_reducible refine LeO.ite ?_ ?_)
   | (with_reducible refine LeO.bind ?_ (fun _ => ?_))
   | exact ih0 _ _ _ _ _ _
   | exact LeO.none _
   | refine LeO.ite ?_ ?_
   | refine LeO.bind ?_ (fun _ => ?_)
set_option maxHeartbeats 8000000 in
set_option maxRecDepth 100000 in
theorem carouselref1_Held.calls (k : Nat) (a0_0 : Bool) (a0_1 : Int) (a0_2 : Int) (a0_3 : Int) (a0_4 : Int) (r : Int) (w : World) (h : carouselref1_Held.f k a0_0 a0_1 a0_2 a0_3 a0_4 = some r) :
  Calls Tryd.prog 29 #[.agg #[.bool a0_0, .int .u64 a0_1, .int .u64 a0_2, .int .u64 a0_3, .int .u64 a0_4]] w fun e w' => e = .returned (.int .i64 r) ∧ Below w.heap.size w w' := by
 have hu41 := Tryd.underlying41
 have HB := Aside0.mk (Below.refl w.heap.size w)
 have H : (if (Go.bits .or .u64 (Go.bits .or .u64 a0_2 a0_3) a0_4) = 0 then (carouselref1_Held.j0 k (decide (a0_1 ≥ 9223372036854775808)) a0_0 a0_1 a0_2 a0_3 a0_4) else (carouselref1_Held.j0 k true a0_0 a0_1 a0_2 a0_3 a0_4)) = some r := h
 clear h
 have HC2 := Aside0.mk H
 clear H
 go_enter Tryd.func29, Tryd.ntmps29
 go_upto_region 1 with (first | ((with_reducible refine gate_dst (N := 1) rfl ?_); refine box_event ?hg (N := 1) ?hd (cs := #[.bool a0_0, .int .u64 a0_1, .int .u64 a0_2, .int .u64 a0_3, .int .u64 a0_4]) (t := 41) ?hr ?_; (case hd => rfl); (case hg => rfl); (case hr => first | (go_simp; done) | (go_simp; rfl)); intro gb160 hg w3 hbox hb; have BK160 := Aside0.mk (hbox); have GW160 := Aside0.mk (zs_ hg (zw0_ HB)); have GE160 := Aside0.mk (zs_ hg (zw0_ HB)); replace HB := Aside0.mk (below_step (zw0_ HB) hb); clear hb hbox hg))
 (try simp only [Act.put, List.setIfInBounds_toArray, List.set_cons_zero, List.set_cons_succ])
 go_cut [20] (fun v20 wc => ∃ (kq : Nat) (x20_1 : Bool), v20 = .bool x20_1 ∧ Aside0 (carouselref1_Held.j0 kq x20_1 a0_0 a0_1 a0_2 a0_3 a0_4 = some r) ∧ Aside0 (kq ≤ k) ∧ Aside0 (wc.heap[gb160]? = some (.cells #[.bool a0_0, .int .u64 a0_1, .int .u64 a0_2, .int .u64 a0_3, .int .u64 a0_4] 41 (0, 0))) ∧ Aside0 (Below w.heap.size w wc))
 case first =>
  have H := HC2.out
  clear HC2
  by_cases c4 : (Go.bits .or .u64 (Go.bits .or .u64 a0_2 a0_3) a0_4) = 0
  ·rw [if_pos c4] at H
   have c4b0 : ((Go.bits .or .u64 (Go.bits .or .u64 a0_2 a0_3) a0_4) == 0) = true := beq_iff_eq.mpr c4
   have c4b1 : ((Go.bits .or .u64 (Go.bits .or .u64 a0_2 a0_3) a0_4) != 0) = false := bne_eq_false_iff_eq.mpr c4
   clear c4
   (first | rw [c4b0] | (simp only [i64_w, i32_w]; rw [c4b0]) | skip)
   have H' := Aside0.mk H
   clear H
   have hcz5_0 := zx_ (v := .bool a0_0) BK160 0
   have hcz5_1 := zx_ (v := .int .u64 a0_1) BK160 1
   have hcz5_2 := zx_ (v := .int .u64 a0_2) BK160 2
   have hcz5_3 := zx_ (v := .int .u64 a0_3) BK160 3
   have hcz5_4 := zx_ (v := .int .u64 a0_4) BK160 4
   have hfz5_0 := blk_frozen BK160.out 0
   have hfz5_1 := blk_frozen BK160.out 1
   have hfz5_2 := blk_frozen BK160.out 2
   have hfz5_3 := blk_frozen BK160.out 3
   have hfz5_4 := blk_frozen BK160.out 4
   go_wp2
   go_meet
   case rel => exact ⟨_, (decide (a0_1 ≥ 9223372036854775808)), (by first | rfl | (simp; done) | (simp [*]; done)), H', ⟨by first | omega | exact Nat.le_refl _⟩, ⟨zb_ BK160⟩, ⟨zw1_ HB GE160⟩⟩
  ·rw [if_neg c4] at H
   have c4b0 : ((Go.bits .or .u64 (Go.bits .or .u64 a0_2 a0_3) a0_4) == 0) = false := beq_eq_false_iff_ne.mpr c4
   have c4b1 : ((Go.bits .or .u64 (Go.bits .or .u64 a0_2 a0_3) a0_4) != 0) = true := bne_iff_ne.mpr c4
   (first | rw [c4b0] | (simp only [i64_w, i32_w]; rw [c4b0]) | skip)
   have H' := Aside0.mk H
   clear H
   have hcz6_0 := zx_ (v := .bool a0_0) BK160 0
   have hcz6_1 := zx_ (v := .int .u64 a0_1) BK160 1
   have hcz6_2 := zx_ (v := .int .u64 a0_2) BK160 2
   have hcz6_3 := zx_ (v := .int .u64 a0_3) BK160 3
   have hcz6_4 := zx_ (v := .int .u64 a0_4) BK160 4
   have hfz6_0 := blk_frozen BK160.out 0
   have hfz6_1 := blk_frozen BK160.out 1
   have hfz6_2 := blk_frozen BK160.out 2
   have hfz6_3 := blk_frozen BK160.out 3
   have hfz6_4 := blk_frozen BK160.out 4
   go_wp2
   go_meet
   case rel => exact ⟨_, (true), (by first | rfl | (simp; done) | (simp [*]; done)), H', ⟨by first | omega | exact Nat.le_refl _⟩, ⟨zb_ BK160⟩, ⟨zw1_ HB GE160⟩⟩
 case rest =>
  clear HC2
  try clear c2
  try clear p2
  try clear c4
  try clear c4b0
  try clear c4b1
  try clear hcz5_0
  try clear hcz5_1
  try clear hcz5_2
  try clear hcz5_3
  try clear hcz5_4
  try clear hcz6_0
  try clear hcz6_1
  try clear hcz6_2
  try clear hcz6_3
  try clear hcz6_4
  try clear hfz5_0
  try clear hfz5_1
  try clear hfz5_2
  try clear hfz5_3
  try clear hfz5_4
  try clear hfz6_0
  try clear hfz6_1
  try clear hfz6_2
  try clear hfz6_3
  try clear hfz6_4
  obtain ⟨kq, x20_1, rfl, HA, HJ1, BK160, HB⟩ := hcut
  cases kq with
  | zero => exact absurd HA.out (by simp [carouselref1_Held.j0])
  | succ kj1 =>
   have H := HA.out
   clear HA
   simp only [carouselref1_Held.j0] at H
   by_cases c7 : x20_1 = true
   ·subst c7
    have H1 : (if a0_0 = true then (some (-9223372036854775808)) else (some 9223372036854775807)) = some r := by rw [if_pos rfl] at H; exact H
    clear H
    have H := H1
    clear H1
    by_cases c8 : a0_0 = true
    ·subst c8
     have H1 : (some (-9223372036854775808)) = some r := by rw [if_pos rfl] at H; exact H
     clear H
     have H := H1
     clear H1
     obtain rfl := Option.some.inj H
     have hcz9_0 := zx_ (v := .bool true) BK160 0
     have hcz9_1 := zx_ (v := .int .u64 a0_1) BK160 1
     have hcz9_2 := zx_ (v := .int .u64 a0_2) BK160 2
     have hcz9_3 := zx_ (v := .int .u64 a0_3) BK160 3
     have hcz9_4 := zx_ (v := .int .u64 a0_4) BK160 4
     have hfz9_0 := blk_frozen BK160.out 0
     have hfz9_1 := blk_frozen BK160.out 1
     have hfz9_2 := blk_frozen BK160.out 2
     have hfz9_3 := blk_frozen BK160.out 3
     have hfz9_4 := blk_frozen BK160.out 4
     go_wp2
     go_ret
     exact ⟨by first | rfl | (simp [errW_none, errW_some] <;> rfl) | (simp [*, errW_none, errW_some] <;> rfl), zw1_ HB GE160⟩
    ·replace c8 := Bool.eq_false_iff.mpr c8
     subst c8
     have H1 : (some 9223372036854775807) = some r := by rw [if_neg (show ¬ (false = true) by decide)] at H; exact H
     clear H
     have H := H1
     clear H1
     obtain rfl := Option.some.inj H
     have hcz10_0 := zx_ (v := .bool false) BK160 0
     have hcz10_1 := zx_ (v := .int .u64 a0_1) BK160 1
     have hcz10_2 := zx_ (v := .int .u64 a0_2) BK160 2
     have hcz10_3 := zx_ (v := .int .u64 a0_3) BK160 3
     have hcz10_4 := zx_ (v := .int .u64 a0_4) BK160 4
     have hfz10_0 := blk_frozen BK160.out 0
     have hfz10_1 := blk_frozen BK160.out 1
     have hfz10_2 := blk_frozen BK160.out 2
     have hfz10_3 := blk_frozen BK160.out 3
     have hfz10_4 := blk_frozen BK160.out 4
     go_wp2
     go_ret
     exact ⟨by first | rfl | (simp [errW_none, errW_some] <;> rfl) | (simp [*, errW_none, errW_some] <;> rfl), zw1_ HB GE160⟩
   ·replace c7 := Bool.eq_false_iff.mpr c7
    subst c7
    have H1 := H
    rw [if_neg (show ¬ (false = true) by decide)] at H1
    clear H
    have H := H1
    clear H1
    by_cases c11 : a0_0 = true
    ·subst c11
     have H1 : (some (wrap64 (-(wrap64 (a0_1))))) = some r := by rw [if_pos rfl] at H; exact H
     clear H
     have H := H1
     clear H1
     obtain rfl := Option.some.inj H
     have hcz12_0 := zx_ (v := .bool true) BK160 0
     have hcz12_1 := zx_ (v := .int .u64 a0_1) BK160 1
     have hcz12_2 := zx_ (v := .int .u64 a0_2) BK160 2
     have hcz12_3 := zx_ (v := .int .u64 a0_3) BK160 3
     have hcz12_4 := zx_ (v := .int .u64 a0_4) BK160 4
     have hfz12_0 := blk_frozen BK160.out 0
     have hfz12_1 := blk_frozen BK160.out 1
     have hfz12_2 := blk_frozen BK160.out 2
     have hfz12_3 := blk_frozen BK160.out 3
     have hfz12_4 := blk_frozen BK160.out 4
     go_wp2
     go_ret
     exact ⟨by first | rfl | (simp [errW_none, errW_some] <;> rfl) | (simp [*, errW_none, errW_some] <;> rfl), zw1_ HB GE160⟩
    ·replace c11 := Bool.eq_false_iff.mpr c11
     subst c11
     have H1 : (some (wrap64 (a0_1))) = some r := by rw [if_neg (show ¬ (false = true) by decide)] at H; exact H
     clear H
     have H := H1
     clear H1
     obtain rfl := Option.some.inj H
     have hcz13_0 := zx_ (v := .bool false) BK160 0
     have hcz13_1 := zx_ (v := .int .u64 a0_1) BK160 1
     have hcz13_2 := zx_ (v := .int .u64 a0_2) BK160 2
     have hcz13_3 := zx_ (v := .int .u64 a0_3) BK160 3
     have hcz13_4 := zx_ (v := .int .u64 a0_4) BK160 4
     have hfz13_0 := blk_frozen BK160.out 0
     have hfz13_1 := blk_frozen BK160.out 1
     have hfz13_2 := blk_frozen BK160.out 2
     have hfz13_3 := blk_frozen BK160.out 3
     have hfz13_4 := blk_frozen BK160.out 4
     go_wp2
     go_ret
     exact ⟨by first | rfl | (simp [errW_none, errW_some] <;> rfl) | (simp [*, errW_none, errW_some] <;> rfl), zw1_ HB GE160⟩

/-! ### carouselref1_size: function 36 -/
def carouselref1_size.f (a0 : Int) : Option (Int) := if a0 < 0 then (some (IntKind.u64.wrap ((IntKind.u64.wrap (wrap64 (-(wrap64 (a0 + 1))))) + 1))) else (some (IntKind.u64.wrap (a0)))
set_option maxHeartbeats 8000000 in
set_option maxRecDepth 100000 in
theorem carouselref1_size.calls (a0 : Int) (r : Int) (w : World) (h : carouselref1_size.f a0 = some r) :
  Calls Tryd.prog 36 #[.int .i64 a0] w fun e w' => e = .returned (.int .u64 r) ∧ Drawn0 w w' := by
 have H : (if a0 < 0 then (some (IntKind.u64.wrap ((IntKind.u64.wrap (wrap64 (-(wrap64 (a0 + 1))))) + 1))) else (some (IntKind.u64.wrap (a0)))) = some r := h
 clear h
 by_cases c2 : a0 < 0
 ·rw [if_pos c2] at H
  have c2b0 : decide (a0 < 0) = true := decide_eq_true c2
  clear c2
  obtain rfl := Option.some.inj H
  go_enter Tryd.func36, Tryd.ntmps36
  go_wp2
  go_ret
  exact ⟨by first | rfl | (simp; done) | (simp [*]; done), by repeat (first | exact Drawn0.refl _ | apply Drawn0.step)⟩
 ·rw [if_neg c2] at H
  have c2b0 : decide (a0 < 0) = false := decide_eq_false c2
  clear c2
  obtain rfl := Option.some.inj H
  go_enter Tryd.func36, Tryd.ntmps36
  go_wp2
  go_ret
  exact ⟨by first | rfl | (simp; done) | (simp [*]; done), by repeat (first | exact Drawn0.refl _ | apply Drawn0.step)⟩

/-! ### carouselref1_From: function 31 -/
def carouselref1_From.f (a0 : Int) : Option (Bool × Int × Int × Int × Int) := (carouselref1_size.f a0).bind fun t162 => (some (decide (a0 < 0), t162, 0, 0, 0))
set_option maxHeartbeats 8000000 in
set_option maxRecDepth 100000 in
theorem carouselref1_From.calls (a0 : Int) (r1 : Bool) (r2 : Int) (r3 : Int) (r4 : Int) (r5 : Int) (w : World) (h : carouselref1_From.f a0 = some (r1, r2, r3, r4, r5)) :
  Calls Tryd.prog 31 #[.int .i64 a0] w fun e w' => e = .returned (.agg #[.bool r1, .int .u64 r2, .int .u64 r3, .int .u64 r4, .int .u64 r5]) ∧ Below w.heap.size w w' := by
 have hu41 := Tryd.underlying41
 have hu39 := Tryd.underlying39
 have HB := Aside0.mk (Below.refl w.heap.size w)
 have H : ((carouselref1_size.f a0).bind fun t162 => (some (decide (a0 < 0), t162, 0, 0, 0))) = some (r1, r2, r3, r4, r5) := h
 clear h
 replace H := Option.bind_eq_some_iff.mp H
 obtain ⟨t162, A20, H⟩ := H
 replace H : (some (decide (a0 < 0), t162, 0, 0, 0)) = some (r1, r2, r3, r4, r5) := H
 have A2 := Aside0.mk A20
 clear A20
 simp only [Option.some.injEq, Prod.mk.injEq] at H
 obtain ⟨rfl, rfl, rfl, rfl, rfl⟩ := H
 go_enter Tryd.func31, Tryd.ntmps31
 go_wp2_with (first | ((with_reducible refine gate_dst (N := 2) rfl ?_); refine box_event ?hg (N := 2) ?hd (cs := #[.bool false, .int .u64 0, .int .u64 0, .int .u64 0, .int .u64 0]) (t := 41) ?hr ?_; (case hd => rfl); (case hg => rfl); (case hr => first | (go_simp; done) | (go_simp; rfl)); intro gb161 hg w3 hbox hb; have BK161 := Aside0.mk (hbox); have GW161 := Aside0.mk (zs_ hg (zw0_ HB)); have GE161 := Aside0.mk (zs_ hg (zw0_ HB)); replace HB := Aside0.mk (below_step (zw0_ HB) hb); clear hb hbox hg) | ((with_reducible refine gate_callee (f := 36) rfl ?_); refine zg_ (some 6) Tryd.func36 #[.int .i64 a0] (h := ?_); (with_reducible refine (carouselref1_size.calls a0 t162 _ A2.out).mono ?_); rintro e w' ⟨rfl, ⟨nd, rfl⟩⟩; refine ⟨_, rfl, ?_⟩; (try (rw [drewN_self w3]; generalize hq_ : World.drewN w3 _ = w3; have n0_ : Aside0 (w3.heap[gb161]? = some (.cells #[.bool false, .int .u64 0, .int .u64 0, .int .u64 0, .int .u64 0] 41 (0, 0))) := ⟨by rw [← hq_]; exact (zb_ BK161)⟩; have n1_ : Aside0 (Below w.heap.size w w3) := ⟨by rw [← hq_]; exact (zw1_ HB GE161)⟩; clear BK161 HB hq_; have BK161 := n0_; have HB := n1_; clear n0_ n1_)); have hcz4_0 := zx_ (v := .bool false) BK161 0; have hcz4_1 := zx_ (v := .int .u64 0) BK161 1; have hcz4_2 := zx_ (v := .int .u64 0) BK161 2; have hcz4_3 := zx_ (v := .int .u64 0) BK161 3; have hcz4_4 := zx_ (v := .int .u64 0) BK161 4; have hfz4_0 := blk_frozen BK161.out 0; have hfz4_1 := blk_frozen BK161.out 1; have hfz4_2 := blk_frozen BK161.out 2; have hfz4_3 := blk_frozen BK161.out 3; have hfz4_4 := blk_frozen BK161.out 4))
 refine bodyPost_ret (results_cell_row rfl _ _ gb161 41 #[.bool (decide (a0 < 0)), .int .u64 t162, .int .u64 0, .int .u64 0, .int .u64 0] (0, 0) _ rfl (by (with_reducible repeat (first | refine blk_drewN ?_ _ | refine blk_drew ?_ | refine blk_alloc ?_ _)); refine blk_put (cs := #[.bool (decide (a0 < 0)), .int .u64 t162, .int .u64 0, .int .u64 0, .int .u64 0]) ?_ 4 _ rfl; (with_reducible repeat (first | refine blk_drewN ?_ _ | refine blk_drew ?_ | refine blk_alloc ?_ _)); refine blk_put (cs := #[.bool (decide (a0 < 0)), .int .u64 t162, .int .u64 0, .int .u64 0, .int .u64 0]) ?_ 3 _ rfl; (with_reducible repeat (first | refine blk_drewN ?_ _ | refine blk_drew ?_ | refine blk_alloc ?_ _)); refine blk_put (cs := #[.bool (decide (a0 < 0)), .int .u64 t162, .int .u64 0, .int .u64 0, .int .u64 0]) ?_ 2 _ rfl; (with_reducible repeat (first | refine blk_drewN ?_ _ | refine blk_drew ?_ | refine blk_alloc ?_ _)); refine blk_put (cs := #[.bool (decide (a0 < 0)), .int .u64 0, .int .u64 0, .int .u64 0, .int .u64 0]) ?_ 1 _ rfl; (with_reducible repeat (first | refine blk_drewN ?_ _ | refine blk_drew ?_ | refine blk_alloc ?_ _)); refine blk_put (cs := #[.bool false, .int .u64 0, .int .u64 0, .int .u64 0, .int .u64 0]) ?_ 0 _ rfl; (with_reducible repeat (first | refine blk_drewN ?_ _ | refine blk_drew ?_ | refine blk_alloc ?_ _)); exact BK161.out) Tryd.underlying41 rfl (by kernel_rfl)) rfl ?_
 exact ⟨by first | rfl | (simp [errW_none, errW_some] <;> rfl) | (simp [*, errW_none, errW_some] <;> rfl), zw1_ HB GE161⟩

/-! ### carouselref1_plus: function 55 -/
/-! ### words for arrays of four cells that lie in memory -/
theorem set_last_ (W : World) (cs : Array Value) (t : TypeId) (n off B : Nat) (v : Value) (hB : B = W.heap.size) : ((W.alloc (.cells cs t)).drewN n).setCell ⟨B, off, none⟩ v = (W.alloc (.cells (cs.setIfInBounds off v) t)).drewN n := by
 subst hB
 unfold World.alloc World.drewN World.setCell
 simp only [World.mk.injEq, and_true]
 apply Array.ext
 ·simp
 ·intro i h1 h2
  simp at h1 h2
  by_cases c : i = W.heap.size
  ·subst c
   simp [Array.getElem_modify, Array.getElem_push]
  ·have h3 : i < W.heap.size := by omega
   simp [Array.getElem_modify, Array.getElem_push, Ne.symm c, h3]
theorem set_last3_ (w : World) (o1 o2 o3 : Obj) (cs : Array Value) (t : TypeId) (n off : Nat) (v : Value) : (((((w.alloc o1).alloc o2).alloc o3).alloc (.cells cs t)).drewN n).setCell ⟨w.heap.size + 1 + 1 + 1, off, none⟩ v = ((((w.alloc o1).alloc o2).alloc o3).alloc (.cells (cs.setIfInBounds off v) t)).drewN n :=
 set_last_ _ cs t n off _ v (by simp only [World.alloc, Array.size_push])
theorem set_last4_ (w : World) (o1 o2 o3 : Obj) (cs : Array Value) (t : TypeId) (n m off : Nat) (v : Value) : ((((((w.alloc o1).alloc o2).alloc o3).alloc (.cells cs t)).drewN n).setCell ⟨w.heap.size + 1 + 1 + 1, off, none⟩ v).drewN m = ((((w.alloc o1).alloc o2).alloc o3).alloc (.cells (cs.setIfInBounds off v) t)).drewN (n + m) := by
 rw [set_last3_]
 simp only [World.drewN, Nat.add_assoc]
theorem end4_ (w : World) (o1 o2 o4 : Obj) (t : TypeId) (n : Nat) (z0 z1 z2 z3 v0 v1 v2 v3 : Value) :
  ((((((((((w.alloc o1).alloc o2).alloc (.cells #[z0, z1, z2, z3] t)).alloc o4).drewN n).setCell ⟨w.heap.size + 1 + 1, 0, none⟩ v0).setCell ⟨w.heap.size + 1 + 1, 1, none⟩ v1).setCell ⟨w.heap.size + 1 + 1, 2, none⟩ v2).setCell ⟨w.heap.size + 1 + 1, 3, none⟩ v3).heap[w.heap.size + 1 + 1]? = some (.cells #[v0, v1, v2, v3] t (0, 0))) ∧
  Below w.heap.size w (((((((((w.alloc o1).alloc o2).alloc (.cells #[z0, z1, z2, z3] t)).alloc o4).drewN n).setCell ⟨w.heap.size + 1 + 1, 0, none⟩ v0).setCell ⟨w.heap.size + 1 + 1, 1, none⟩ v1).setCell ⟨w.heap.size + 1 + 1, 2, none⟩ v2).setCell ⟨w.heap.size + 1 + 1, 3, none⟩ v3) := by
 have s2 : ((w.alloc o1).alloc o2).heap.size = w.heap.size + 1 + 1 := by simp only [World.alloc, Array.size_push]
 have s3 : (((w.alloc o1).alloc o2).alloc (.cells #[z0, z1, z2, z3] t)).heap.size = w.heap.size + 1 + 1 + 1 := by simp only [World.alloc, Array.size_push]
 have b := blk_new ((w.alloc o1).alloc o2) (.cells #[z0, z1, z2, z3] t (0, 0))
 rw [s2] at b
 constructor
 ·exact blk_put (cs := #[v0, v1, v2, z3]) (blk_put (cs := #[v0, v1, z2, z3]) (blk_put (cs := #[v0, z1, z2, z3]) (blk_put (cs := #[z0, z1, z2, z3]) (blk_drewN (blk_alloc b _) _) 0 _ rfl) 1 _ rfl) 2 _ rfl) 3 _ rfl
 ·have h1 := (Below.refl w.heap.size w).alloc (Nat.le_refl _) o1
  have h2 := h1.alloc (by simp only [World.alloc, Array.size_push]; omega) o2
  have h3 := h2.alloc (by rw [s2]; omega) (.cells #[z0, z1, z2, z3] t (0, 0))
  have h4 := h3.alloc (by rw [s3]; omega) o4
  have h5 : Below w.heap.size w (((((w.alloc o1).alloc o2).alloc (.cells #[z0, z1, z2, z3] t (0, 0))).alloc o4).drewN n) := ⟨h4.os, h4.tape, h4.output, h4.size, h4.block⟩
  exact (((h5.setCell (by show w.heap.size ≤ w.heap.size + 1 + 1; omega) _).setCell (by show w.heap.size ≤ w.heap.size + 1 + 1; omega) _).setCell (by show w.heap.size ≤ w.heap.size + 1 + 1; omega) _).setCell (by show w.heap.size ≤ w.heap.size + 1 + 1; omega) _
def carouselref1_plus.s (a b c : Int) : Int := IntKind.u64.wrap (IntKind.u64.wrap (a + b) + c)
def carouselref1_plus.c (a b c : Int) : Int := if IntKind.u64.wrap (a + b) < a then 1 else if carouselref1_plus.s a b c < IntKind.u64.wrap (a + b) then 1 else 0
theorem carouselref1_plus.s_z (a b : Int) : IntKind.u64.wrap (IntKind.u64.wrap (a + b)) = carouselref1_plus.s a b 0 := by unfold carouselref1_plus.s; rw [Int.add_zero]
theorem carouselref1_plus.c_pos (a b c : Int) (h : IntKind.u64.wrap (a + b) < a) : 1 = carouselref1_plus.c a b c := by unfold carouselref1_plus.c; rw [if_pos h]
theorem carouselref1_plus.c_mid (a b c : Int) (h1 : a ≤ IntKind.u64.wrap (a + b)) (h : IntKind.u64.wrap (a + b) < a ∨ IntKind.u64.wrap (IntKind.u64.wrap (a + b) + c) < IntKind.u64.wrap (a + b)) : 1 = carouselref1_plus.c a b c := by
 unfold carouselref1_plus.c carouselref1_plus.s; rw [if_neg (by omega), if_pos (by omega)]
theorem carouselref1_plus.c_neg (a b c : Int) (h1 : a ≤ IntKind.u64.wrap (a + b)) (h2 : a ≤ IntKind.u64.wrap (a + b) ∧ IntKind.u64.wrap (a + b) ≤ IntKind.u64.wrap (IntKind.u64.wrap (a + b) + c)) : 0 = carouselref1_plus.c a b c := by unfold carouselref1_plus.c carouselref1_plus.s; rw [if_neg (by omega), if_neg (by omega)]
theorem carouselref1_plus.c_posz (a b : Int) (h : IntKind.u64.wrap (a + b) < a) : 1 = carouselref1_plus.c a b 0 := carouselref1_plus.c_pos a b 0 h
theorem carouselref1_plus.c_midz (a b : Int) (h1 : a ≤ IntKind.u64.wrap (a + b)) (h : IntKind.u64.wrap (a + b) < a ∨ IntKind.u64.wrap (IntKind.u64.wrap (a + b)) < IntKind.u64.wrap (a + b)) : 1 = carouselref1_plus.c a b 0 := carouselref1_plus.c_mid a b 0 h1 (by rw [Int.add_zero]; exact h)
theorem carouselref1_plus.c_negz (a b : Int) (h1 : a ≤ IntKind.u64.wrap (a + b)) (h2 : a ≤ IntKind.u64.wrap (a + b) ∧ IntKind.u64.wrap (a + b) ≤ IntKind.u64.wrap (IntKind.u64.wrap (a + b))) : 0 = carouselref1_plus.c a b 0 := carouselref1_plus.c_neg a b 0 h1 (by rw [Int.add_zero]; exact h2)
def carouselref1_plus.f (a0_0 : Int) (a0_1 : Int) (a0_2 : Int) (a0_3 : Int) (a1_0 : Int) (a1_1 : Int) (a1_2 : Int) (a1_3 : Int) : Option (Int × Int × Int × Int) := some (carouselref1_plus.s a0_0 a1_0 0, carouselref1_plus.s a0_1 a1_1 (carouselref1_plus.c a0_0 a1_0 0), carouselref1_plus.s a0_2 a1_2 (carouselref1_plus.c a0_1 a1_1 (carouselref1_plus.c a0_0 a1_0 0)), carouselref1_plus.s a0_3 a1_3 (carouselref1_plus.c a0_2 a1_2 (carouselref1_plus.c a0_1 a1_1 (carouselref1_plus.c a0_0 a1_0 0))))
set_option maxHeartbeats 8000000 in
set_option maxRecDepth 100000 in
theorem carouselref1_plus.calls (a0_0 : Int) (a0_1 : Int) (a0_2 : Int) (a0_3 : Int) (a1_0 : Int) (a1_1 : Int) (a1_2 : Int) (a1_3 : Int) (r1 : Int) (r2 : Int) (r3 : Int) (r4 : Int) (w : World) (h : carouselref1_plus.f a0_0 a0_1 a0_2 a0_3 a1_0 a1_1 a1_2 a1_3 = some (r1, r2, r3, r4)) :
  Calls Tryd.prog 55 #[.agg #[.int .u64 a0_0, .int .u64 a0_1, .int .u64 a0_2, .int .u64 a0_3], .agg #[.int .u64 a1_0, .int .u64 a1_1, .int .u64 a1_2, .int .u64 a1_3]] w fun e w' => e = .returned (.agg #[.int .u64 r1, .int .u64 r2, .int .u64 r3, .int .u64 r4]) ∧ Below w.heap.size w w' := by
 unfold carouselref1_plus.f at h
 have H0 := Aside0.mk h
 clear h
 have hu39 := Tryd.underlying39
 go_enter Tryd.func55, Tryd.ntmps55
 go_wp2
 refine wp_loop_rounds 5 ?_
 rw [rounds_succ]
 go_upto_block 1 with (fail)
 go_cut [6] (fun v6 wc => ∃ (n : Nat) (k0 t0 : Int), v6 = .int .u64 k0 ∧ Aside0 (k0 = carouselref1_plus.c a0_0 a1_0 0) ∧ Aside0 (t0 = carouselref1_plus.s a0_0 a1_0 0) ∧ wc = (((((w.alloc (.cells #[.int .u64 a0_0, .int .u64 a0_1, .int .u64 a0_2, .int .u64 a0_3] 39)).alloc (.cells #[.int .u64 a1_0, .int .u64 a1_1, .int .u64 a1_2, .int .u64 a1_3] 39)).alloc (.cells #[.int .u64 0, .int .u64 0, .int .u64 0, .int .u64 0] 39)).alloc (.cells #[.int .u64 t0, .int .u64 0, .int .u64 0, .int .u64 0] 39))).drewN n)
 case first =>
  go_wp2
  go_quiet (fail)
  go_wp2
  all_goals go_meet
  all_goals first | exact ⟨_, _, _, rfl, ⟨carouselref1_plus.c_posz a0_0 a1_0 (by assumption)⟩, ⟨carouselref1_plus.s_z a0_0 a1_0⟩, set_last3_ _ _ _ _ _ _ _ _ _⟩ | exact ⟨_, _, _, rfl, ⟨carouselref1_plus.c_midz a0_0 a1_0 (by assumption) (by assumption)⟩, ⟨carouselref1_plus.s_z a0_0 a1_0⟩, set_last3_ _ _ _ _ _ _ _ _ _⟩ | exact ⟨_, _, _, rfl, ⟨carouselref1_plus.c_negz a0_0 a1_0 (by assumption) (by assumption)⟩, ⟨carouselref1_plus.s_z a0_0 a1_0⟩, set_last3_ _ _ _ _ _ _ _ _ _⟩
 case rest =>
  obtain ⟨n0, k0, t0, rfl, K0, T0, rfl⟩ := hcut
  go_wp2
  rw [rounds_succ]
  go_upto_block 1 with (fail)
  go_cut [6] (fun v6 wc => ∃ (n : Nat) (k1 t1 : Int), v6 = .int .u64 k1 ∧ Aside0 (k1 = carouselref1_plus.c a0_1 a1_1 k0) ∧ Aside0 (t1 = carouselref1_plus.s a0_1 a1_1 k0) ∧ wc = (((((w.alloc (.cells #[.int .u64 a0_0, .int .u64 a0_1, .int .u64 a0_2, .int .u64 a0_3] 39)).alloc (.cells #[.int .u64 a1_0, .int .u64 a1_1, .int .u64 a1_2, .int .u64 a1_3] 39)).alloc (.cells #[.int .u64 0, .int .u64 0, .int .u64 0, .int .u64 0] 39)).alloc (.cells #[.int .u64 t0, .int .u64 t1, .int .u64 0, .int .u64 0] 39))).drewN n)
  case first =>
   go_wp2
   go_quiet (fail)
   go_wp2
   all_goals go_meet
   all_goals first | exact ⟨_, _, _, rfl, ⟨carouselref1_plus.c_pos a0_1 a1_1 k0 (by assumption)⟩, ⟨rfl⟩, set_last3_ _ _ _ _ _ _ _ _ _⟩ | exact ⟨_, _, _, rfl, ⟨carouselref1_plus.c_mid a0_1 a1_1 k0 (by assumption) (by assumption)⟩, ⟨rfl⟩, set_last3_ _ _ _ _ _ _ _ _ _⟩ | exact ⟨_, _, _, rfl, ⟨carouselref1_plus.c_neg a0_1 a1_1 k0 (by assumption) (by assumption)⟩, ⟨rfl⟩, set_last3_ _ _ _ _ _ _ _ _ _⟩
  case rest =>
   obtain ⟨n1, k1, t1, rfl, K1, T1, rfl⟩ := hcut
   go_wp2
   rw [rounds_succ]
   go_upto_block 1 with (fail)
   go_cut [6] (fun v6 wc => ∃ (n : Nat) (k2 t2 : Int), v6 = .int .u64 k2 ∧ Aside0 (k2 = carouselref1_plus.c a0_2 a1_2 k1) ∧ Aside0 (t2 = carouselref1_plus.s a0_2 a1_2 k1) ∧ wc = (((((w.alloc (.cells #[.int .u64 a0_0, .int .u64 a0_1, .int .u64 a0_2, .int .u64 a0_3] 39)).alloc (.cells #[.int .u64 a1_0, .int .u64 a1_1, .int .u64 a1_2, .int .u64 a1_3] 39)).alloc (.cells #[.int .u64 0, .int .u64 0, .int .u64 0, .int .u64 0] 39)).alloc (.cells #[.int .u64 t0, .int .u64 t1, .int .u64 t2, .int .u64 0] 39))).drewN n)
   case first =>
    go_wp2
    go_quiet (fail)
    go_wp2
    all_goals go_meet
    all_goals first | exact ⟨_, _, _, rfl, ⟨carouselref1_plus.c_pos a0_2 a1_2 k1 (by assumption)⟩, ⟨rfl⟩, set_last3_ _ _ _ _ _ _ _ _ _⟩ | exact ⟨_, _, _, rfl, ⟨carouselref1_plus.c_mid a0_2 a1_2 k1 (by assumption) (by assumption)⟩, ⟨rfl⟩, set_last3_ _ _ _ _ _ _ _ _ _⟩ | exact ⟨_, _, _, rfl, ⟨carouselref1_plus.c_neg a0_2 a1_2 k1 (by assumption) (by assumption)⟩, ⟨rfl⟩, set_last3_ _ _ _ _ _ _ _ _ _⟩
   case rest =>
    obtain ⟨n2, k2, t2, rfl, K2, T2, rfl⟩ := hcut
    go_wp2
    rw [rounds_succ]
    go_upto_block 1 with (fail)
    go_cut [6] (fun v6 wc => ∃ (n : Nat) (k3 t3 : Int), v6 = .int .u64 k3 ∧ Aside0 (k3 = carouselref1_plus.c a0_3 a1_3 k2) ∧ Aside0 (t3 = carouselref1_plus.s a0_3 a1_3 k2) ∧ wc = (((((w.alloc (.cells #[.int .u64 a0_0, .int .u64 a0_1, .int .u64 a0_2, .int .u64 a0_3] 39)).alloc (.cells #[.int .u64 a1_0, .int .u64 a1_1, .int .u64 a1_2, .int .u64 a1_3] 39)).alloc (.cells #[.int .u64 0, .int .u64 0, .int .u64 0, .int .u64 0] 39)).alloc (.cells #[.int .u64 t0, .int .u64 t1, .int .u64 t2, .int .u64 t3] 39))).drewN n)
    case first =>
     go_wp2
     go_quiet (fail)
     go_wp2
     all_goals go_meet
     all_goals first | exact ⟨_, _, _, rfl, ⟨carouselref1_plus.c_pos a0_3 a1_3 k2 (by assumption)⟩, ⟨rfl⟩, set_last3_ _ _ _ _ _ _ _ _ _⟩ | exact ⟨_, _, _, rfl, ⟨carouselref1_plus.c_mid a0_3 a1_3 k2 (by assumption) (by assumption)⟩, ⟨rfl⟩, set_last3_ _ _ _ _ _ _ _ _ _⟩ | exact ⟨_, _, _, rfl, ⟨carouselref1_plus.c_neg a0_3 a1_3 k2 (by assumption) (by assumption)⟩, ⟨rfl⟩, set_last3_ _ _ _ _ _ _ _ _ _⟩
    case rest =>
     obtain ⟨n3, k3, t3, rfl, K3, T3, rfl⟩ := hcut
     go_wp2
     rw [rounds_succ]
     go_wp2
     have E := end4_ w (.cells #[.int .u64 a0_0, .int .u64 a0_1, .int .u64 a0_2, .int .u64 a0_3] 39) (.cells #[.int .u64 a1_0, .int .u64 a1_1, .int .u64 a1_2, .int .u64 a1_3] 39) (.cells #[.int .u64 t0, .int .u64 t1, .int .u64 t2, .int .u64 t3] 39) 39 n3 (.int .u64 0) (.int .u64 0) (.int .u64 0) (.int .u64 0) (.int .u64 t0) (.int .u64 t1) (.int .u64 t2) (.int .u64 t3)
     refine bodyPost_ret (results_cell_row rfl _ _ (w.heap.size + 1 + 1) 39 #[.int .u64 t0, .int .u64 t1, .int .u64 t2, .int .u64 t3] (0, 0) _ rfl E.1 hu39 rfl (by kernel_rfl)) rfl ⟨?_, E.2⟩
     have H := H0.out
     simp only [Option.some.injEq, Prod.mk.injEq] at H
     obtain ⟨rfl, rfl, rfl, rfl⟩ := H
     rw [T0.out, T1.out, T2.out, T3.out, K2.out, K1.out, K0.out]

/-! ### carouselref1_less: function 57 -/
def carouselref1_less.s (a0 a1 a2 a3 b0 b1 b2 b3 : Int) : Bool := if a3 = b3 then (if a2 = b2 then (if a1 = b1 then (if a0 = b0 then false else decide (a0 < b0)) else decide (a1 < b1)) else decide (a2 < b2)) else decide (a3 < b3)
def carouselref1_less.f (a0_0 : Int) (a0_1 : Int) (a0_2 : Int) (a0_3 : Int) (a1_0 : Int) (a1_1 : Int) (a1_2 : Int) (a1_3 : Int) : Option (Bool) := some (carouselref1_less.s a0_0 a0_1 a0_2 a0_3 a1_0 a1_1 a1_2 a1_3)
set_option maxHeartbeats 8000000 in
set_option maxRecDepth 100000 in
theorem carouselref1_less.calls (a0_0 : Int) (a0_1 : Int) (a0_2 : Int) (a0_3 : Int) (a1_0 : Int) (a1_1 : Int) (a1_2 : Int) (a1_3 : Int) (r : Bool) (w : World) (h : carouselref1_less.f a0_0 a0_1 a0_2 a0_3 a1_0 a1_1 a1_2 a1_3 = some r) :
  Calls Tryd.prog 57 #[.agg #[.int .u64 a0_0, .int .u64 a0_1, .int .u64 a0_2, .int .u64 a0_3], .agg #[.int .u64 a1_0, .int .u64 a1_1, .int .u64 a1_2, .int .u64 a1_3]] w fun e w' => e = .returned (.bool r) ∧ Below w.heap.size w w' := by
 have H0 := Aside0.mk (Option.some.inj h)
 clear h
 have HB := Aside0.mk (Below.refl w.heap.size w)
 have hu39 := Tryd.underlying39
 go_enter Tryd.func57, Tryd.ntmps57
 go_wp2
 refine wp_loop_rounds 5 ?_
 rw [rounds_succ]
 by_cases c3 : a0_3 = a1_3
 case neg =>
  have d3 : (a0_3 == a1_3) = false := by simp [c3]
  have C3 := Aside0.mk c3
  clear c3
  go_wp2
  go_quiet (fail)
  go_wp2
  go_quiet (fail)
  go_wp2
  go_ret
  refine ⟨?_, zw0_ HB⟩
  have H := H0.out
  unfold carouselref1_less.s at H
  rw [if_neg C3.out] at H
  rw [← H]
  rfl
 case pos =>
  have d3 : (a0_3 == a1_3) = true := by simp [c3]
  have C3 := Aside0.mk c3
  clear c3
  go_wp2
  go_quiet (fail)
  go_wp2
  rw [rounds_succ]
  by_cases c2 : a0_2 = a1_2
  case neg =>
   have d2 : (a0_2 == a1_2) = false := by simp [c2]
   have C2 := Aside0.mk c2
   clear c2
   go_wp2
   go_quiet (fail)
   go_wp2
   go_quiet (fail)
   go_wp2
   go_ret
   refine ⟨?_, zw0_ HB⟩
   have H := H0.out
   unfold carouselref1_less.s at H
   rw [if_pos C3.out, if_neg C2.out] at H
   rw [← H]
   rfl
  case pos =>
   have d2 : (a0_2 == a1_2) = true := by simp [c2]
   have C2 := Aside0.mk c2
   clear c2
   go_wp2
   go_quiet (fail)
   go_wp2
   rw [rounds_succ]
   by_cases c1 : a0_1 = a1_1
   case neg =>
    have d1 : (a0_1 == a1_1) = false := by simp [c1]
    have C1 := Aside0.mk c1
    clear c1
    go_wp2
    go_quiet (fail)
    go_wp2
    go_quiet (fail)
    go_wp2
    go_ret
    refine ⟨?_, zw0_ HB⟩
    have H := H0.out
    unfold carouselref1_less.s at H
    rw [if_pos C3.out, if_pos C2.out, if_neg C1.out] at H
    rw [← H]
    rfl
   case pos =>
    have d1 : (a0_1 == a1_1) = true := by simp [c1]
    have C1 := Aside0.mk c1
    clear c1
    go_wp2
    go_quiet (fail)
    go_wp2
    rw [rounds_succ]
    by_cases c0 : a0_0 = a1_0
    case neg =>
     have d0 : (a0_0 == a1_0) = false := by simp [c0]
     have C0 := Aside0.mk c0
     clear c0
     go_wp2
     go_quiet (fail)
     go_wp2
     go_quiet (fail)
     go_wp2
     go_ret
     refine ⟨?_, zw0_ HB⟩
     have H := H0.out
     unfold carouselref1_less.s at H
     rw [if_pos C3.out, if_pos C2.out, if_pos C1.out, if_neg C0.out] at H
     rw [← H]
     rfl
    case pos =>
     have d0 : (a0_0 == a1_0) = true := by simp [c0]
     have C0 := Aside0.mk c0
     clear c0
     go_wp2
     go_quiet (fail)
     go_wp2
     rw [rounds_succ]
     go_wp2
     go_ret
     refine ⟨?_, zw0_ HB⟩
     have H := H0.out
     unfold carouselref1_less.s at H
     rw [if_pos C3.out, if_pos C2.out, if_pos C1.out, if_pos C0.out] at H
     rw [← H]
     rfl

end Go.Proofs.YtjiloachlemlcaaDoor.PFixReckons
