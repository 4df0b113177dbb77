/- The functions that the law FixKnown reaches, as Lean functions, and that each call of the Go function does what its Lean function says, wherever that one answers. Written by a program of mine over the print of the kit; Lean checks it. -/
import Derived.Test.YtjiloachlemlcaaDoorPFixKnownx0
import Derived.Test.YtjiloachlemlcaaDoorPFixKnownx1
import Derived.Test.YtjiloachlemlcaaDoorPFixKnownx5
import Derived.Test.YtjiloachlemlcaaDoorPFixKnownx6
namespace Go.Proofs.YtjiloachlemlcaaDoor.PFixKnown
open Go.RowKit Go.Proofs.YtjiloachlemlcaaDoorW.PrintWords Go.Proofs.YtjiloachlemlcaaDoorW.PrintLast Go.Proofs.YtjiloachlemlcaaDoorW.PrintMore
attribute [local go_sem] max2_int min2_int max_two min_two max_three min_three max_four min_four   -- for this text's walks alone
set_option linter.unusedVariables false
set_option linter.unusedSimpArgs false

/-! ### carousellaw1_awake: function 11 -/
def carousellaw1_awake.f (k : Nat)  : Option (Bool) := (fix_Mul.f k 4294967296 4294967296).bind fun t155 => (if t155 = 4294967296 then ((fix_Of.f 3).bind fun t156 => ((fix_Div.f k 4294967296 t156).bind fun t157 => (if t157 = 1431655765 then ((fix_Text.f k 4294967296).bind fun t158 => (some (t158.toList == ([49, 46, 48, 48, 48, 48, 48, 48, 48, 48, 48, 48] : List UInt8)))) else (none)))) else (none))
theorem carousellaw1_awake.mono : ∀ k, LeO (carousellaw1_awake.f k ) (carousellaw1_awake.f (k + 1) ) := by
 intro  k
 unfold carousellaw1_awake.f
 repeat' first
   | (with_reducible exact fix_Div.mono _ _ _)
   | (with_reducible exact fix_Mul.mono _ _ _)
   | (with_reducible exact fix_Text.mono _ _)
   | (with_reducible exact LeO.refl _)
   | (with_reducible exact LeO.none _)
   | (with_reducible refine LeO.ite ?_ ?_)
   | (with_reducible refine LeO.bind ?_ (fun _ => ?_))
   | exact fix_Div.mono _ _ _
   | exact fix_Mul.mono _ _ _
   | exact fix_Text.mono _ _
   | exact LeO.none _
   | refine LeO.ite ?_ ?_
   | refine LeO.bind ?_ (fun _ => ?_)
set_option maxHeartbeats 8000000 in
set_option maxRecDepth 100000 in
theorem carousellaw1_awake.calls (k : Nat)  (r : Bool) (w : World) (h : carousellaw1_awake.f k  = some r) (hp10 : P10_ w := by first | exact HP10.out | exact p10_below HP10.out (zw0_ HB)) :
  Calls Tryd.prog 11 #[] w fun e w' => e = .returned (.bool r) ∧ Below w.heap.size w w' := by
 have HP10 := Aside0.mk hp10
 clear hp10
 have HB := Aside0.mk (Below.refl w.heap.size w)
 have H : ((fix_Mul.f k 4294967296 4294967296).bind fun t155 => (if t155 = 4294967296 then ((fix_Of.f 3).bind fun t156 => ((fix_Div.f k 4294967296 t156).bind fun t157 => (if t157 = 1431655765 then ((fix_Text.f k 4294967296).bind fun t158 => (some (t158.toList == ([49, 46, 48, 48, 48, 48, 48, 48, 48, 48, 48, 48] : List UInt8)))) else (none)))) else (none))) = some r := h
 clear h
 replace H := Option.bind_eq_some_iff.mp H
 obtain ⟨t155, A10, H⟩ := H
 (try dsimp only at H)
 have A1 := Aside0.mk A10
 clear A10
 by_cases c2 : t155 = 4294967296
 rotate_left
 ·rw [if_neg c2] at H
  exact absurd H (by simp)
 rw [if_pos c2] at H
 have c2b0 : (t155 == 4294967296) = true := beq_iff_eq.mpr c2
 have c2b1 : (t155 != 4294967296) = false := bne_eq_false_iff_eq.mpr c2
 clear c2
 replace H := Option.bind_eq_some_iff.mp H
 obtain ⟨t156, A30, H⟩ := H
 (try dsimp only at H)
 have A3 := Aside0.mk A30
 clear A30
 replace H := Option.bind_eq_some_iff.mp H
 obtain ⟨t157, A40, H⟩ := H
 (try dsimp only at H)
 have A4 := Aside0.mk A40
 clear A40
 by_cases c5 : t157 = 1431655765
 rotate_left
 ·rw [if_neg c5] at H
  exact absurd H (by simp)
 rw [if_pos c5] at H
 have c5b0 : (t157 == 1431655765) = true := beq_iff_eq.mpr c5
 have c5b1 : (t157 != 1431655765) = false := bne_eq_false_iff_eq.mpr c5
 clear c5
 replace H := Option.bind_eq_some_iff.mp H
 obtain ⟨t158, A60, H⟩ := H
 replace H : (some (t158.toList == ([49, 46, 48, 48, 48, 48, 48, 48, 48, 48, 48, 48] : List UInt8))) = some r := H
 have A6 := Aside0.mk A60
 clear A60
 obtain rfl := Option.some.inj H
 go_enter Tryd.func11, Tryd.ntmps11
 go_wp2_with (first | ((with_reducible refine gate_callee (f := 16) rfl ?_); refine zg_ (some 1) Tryd.func16 #[.int .i64 4294967296, .int .i64 4294967296] (h := ?_); (with_reducible refine (fix_Mul.calls k 4294967296 4294967296 t155 _ A1.out).mono ?_); rintro e w' ⟨rfl, ⟨nd, rfl⟩⟩; refine ⟨_, rfl, ?_⟩) | (go_at_call 12; (with_reducible refine (fix_Of.calls 3 t156 _ A3.out).mono ?_); rintro e w' ⟨rfl, ⟨nd, rfl⟩⟩) | (go_at_call 19; (with_reducible refine (fix_Div.calls k 4294967296 t156 t157 _ A4.out).mono ?_); rintro e w' ⟨rfl, ⟨nd, rfl⟩⟩) | (go_at_call 14; (with_reducible refine (fix_Text.calls k 4294967296 t158 _ A6.out).mono ?_); rintro e w7 ⟨rfl, hb⟩; replace HB := Aside0.mk (below_step (zw0_ HB) hb); (try clear hb)))
 go_ret
 exact ⟨z0_, zw0_ HB⟩

/-! ### fix_Add: function 17 -/
def fix_Add.j0 : Nat → Int → Int → Bool → Option (Int)
 | 0, _, _, _ => none
 | k + 1, x0, x5, x20 => if x20 = true then (some x5) else (if x0 < 0 then (some (-9223372036854775808)) else (some 9223372036854775807))
def fix_Add.f (k : Nat) (a0 : Int) (a1 : Int) : Option (Int) := if ((decide (a0 < 0)) != (decide (a1 < 0))) = true then (fix_Add.j0 k a0 (wrap64 (a0 + a1)) true) else (fix_Add.j0 k a0 (wrap64 (a0 + a1)) ((decide ((wrap64 (a0 + a1)) < 0)) == (decide (a0 < 0))))
theorem fix_Add.mono_l : ∀ k, (∀ y0 y1 y2, LeO (fix_Add.j0 k y0 y1 y2) (fix_Add.j0 (k + 1) y0 y1 y2))
 | 0 => fun _ _ _ r h => by simp [fix_Add.j0] at h
 | k + 1 => by
  have ih0 := fix_Add.mono_l k
  ·intro y0 y1 y2
   unfold fix_Add.j0
   repeat' first
   | (with_reducible exact ih0 _ _ _)
   | (with_reducible exact LeO.refl _)
   | (with_reducible exact LeO.none _)
   | (with_reducible refine LeO.ite ?_ ?_)
   | (with_reducible refine LeO.bind ?_ (fun _ => ?_))
   | exact ih0 _ _ _
   | exact LeO.none _
   | refine LeO.ite ?_ ?_
   | refine LeO.bind ?_ (fun _ => ?_)
theorem fix_Add.mono : ∀ a0 a1 k, LeO (fix_Add.f k a0 a1) (fix_Add.f (k + 1) a0 a1) := by
 intro a0 a1 k
 have ih0 := fix_Add.mono_l k
 unfold fix_Add.f
 repeat' first
   | (with_reducible exact ih0 _ _ _)
   | (with_reducible exact LeO.refl _)
   | (with_reducible exact LeO.none _)
   | (with_reducible refine LeO.ite ?_ ?_)
   | (with_reducible refine LeO.bind ?_ (fun _ => ?_))
   | exact ih0 _ _ _
   | exact LeO.none _
   | refine LeO.ite ?_ ?_
   | refine LeO.bind ?_ (fun _ => ?_)
set_option maxHeartbeats 8000000 in
set_option maxRecDepth 100000 in
theorem fix_Add.calls (k : Nat) (a0 : Int) (a1 : Int) (r : Int) (w : World) (h : fix_Add.f k a0 a1 = some r) :
  Calls Tryd.prog 17 #[.int .i64 a0, .int .i64 a1] w fun e w' => e = .returned (.int .i64 r) ∧ Drawn0 w w' := by
 have H : (if ((decide (a0 < 0)) != (decide (a1 < 0))) = true then (fix_Add.j0 k a0 (wrap64 (a0 + a1)) true) else (fix_Add.j0 k a0 (wrap64 (a0 + a1)) ((decide ((wrap64 (a0 + a1)) < 0)) == (decide (a0 < 0))))) = some r := h
 clear h
 have HC3 := Aside0.mk H
 clear H
 go_enter Tryd.func17, Tryd.ntmps17
 go_upto_region 2 with (fail)
 go_cut [20] (fun v20 wc => ∃ (kq : Nat) (x20_2 : Bool), v20 = .bool x20_2 ∧ Aside0 (fix_Add.j0 kq a0 (wrap64 (a0 + a1)) x20_2 = some r) ∧ Aside0 (kq ≤ k) ∧ Drawn0 w wc)
 case first =>
  have H := HC3.out
  clear HC3
  by_cases c4 : ((decide (a0 < 0)) != (decide (a1 < 0))) = true
  rotate_left
  ·rw [if_neg c4] at H
   have c4b0 : ((decide (a0 < 0)) != (decide (a1 < 0))) = false := by simpa using c4
   (try (have c4b1 : decide ((decide (a0 < 0)) = (decide (a1 < 0))) = true := by simpa using c4))
   (try (have c4b2 : ((decide (a0 < 0)) == (decide (a1 < 0))) = true := by simpa using c4))
   clear c4
   (first | rw [c4b0] | (simp only [i64_w, i32_w]; rw [c4b0]) | skip)
   have H' := Aside0.mk H
   clear H
   go_wp2
   go_meet
   case rel => exact ⟨_, (((decide ((wrap64 (a0 + a1)) < 0)) == (decide (a0 < 0)))), z1_, H', ⟨by first | omega | exact Nat.le_refl _⟩, by repeat (first | exact Drawn0.refl _ | apply Drawn0.step)⟩
  rw [if_pos c4] at H
  have c4b0 : ((decide (a0 < 0)) != (decide (a1 < 0))) = true := c4
  (try (have c4b1 : decide ((decide (a0 < 0)) = (decide (a1 < 0))) = false := by simpa using c4))
  (try (have c4b2 : ((decide (a0 < 0)) == (decide (a1 < 0))) = false := by simpa using c4))
  (try (have c4b3 : ¬ ((decide (a0 < 0)) = (decide (a1 < 0))) := by simpa using c4))
  clear c4
  (first | rw [c4b0] | (simp only [i64_w, i32_w]; rw [c4b0]) | skip)
  have H' := Aside0.mk H
  clear H
  go_wp2
  go_meet
  case rel => exact ⟨_, (true), z1_, H', ⟨by first | omega | exact Nat.le_refl _⟩, by repeat (first | exact Drawn0.refl _ | apply Drawn0.step)⟩
 case rest =>
  clear HC3
  try clear c1
  try clear p2
  try clear c4
  try clear c4b0
  try clear c4b1
  try clear c4b2
  obtain ⟨kq, x20_2, rfl, HA, HJ2, ⟨mc2, rfl⟩⟩ := hcut
  cases kq with
  | zero => exact absurd HA.out (by simp [fix_Add.j0])
  | succ kj2 =>
   have H := HA.out
   clear HA
   simp only [fix_Add.j0] at H
   by_cases c5 : x20_2 = true
   ·subst c5
    have H1 : (some (wrap64 (a0 + a1))) = some r := by rw [if_pos rfl] at H; exact H
    clear H
    have H := H1
    clear H1
    obtain rfl := Option.some.inj H
    go_wp2
    go_ret
    exact ⟨by first | rfl | (simp; done) | (simp [*]; done), by repeat (first | exact Drawn0.refl _ | apply Drawn0.step)⟩
   replace c5 := Bool.eq_false_iff.mpr c5
   subst c5
   have H1 := H
   rw [if_neg (show ¬ (false = true) by decide)] at H1
   clear H
   have H := H1
   clear H1
   by_cases c6 : a0 < 0
   ·rw [if_pos c6] at H
    have c6b0 : decide (a0 < 0) = true := decide_eq_true c6
    clear c6
    obtain rfl := Option.some.inj H
    go_wp2
    go_ret
    exact ⟨by first | rfl | (simp; done) | (simp [*]; done), by repeat (first | exact Drawn0.refl _ | apply Drawn0.step)⟩
   rw [if_neg c6] at H
   have c6b0 : decide (a0 < 0) = false := decide_eq_false c6
   clear c6
   obtain rfl := Option.some.inj H
   go_wp2
   go_ret
   exact ⟨by first | rfl | (simp; done) | (simp [*]; done), by repeat (first | exact Drawn0.refl _ | apply Drawn0.step)⟩

/-! ### fix_Sub: function 18 -/
def fix_Sub.j0 : Nat → Int → Int → Bool → Option (Int)
 | 0, _, _, _ => none
 | k + 1, x0, x5, x20 => if x20 = true then (some x5) else (if x0 < 0 then (some (-9223372036854775808)) else (some 9223372036854775807))
def fix_Sub.f (k : Nat) (a0 : Int) (a1 : Int) : Option (Int) := if ((decide (a0 < 0)) == (decide (a1 < 0))) = true then (fix_Sub.j0 k a0 (wrap64 (a0 - a1)) true) else (fix_Sub.j0 k a0 (wrap64 (a0 - a1)) ((decide ((wrap64 (a0 - a1)) < 0)) == (decide (a0 < 0))))
theorem fix_Sub.mono_l : ∀ k, (∀ y0 y1 y2, LeO (fix_Sub.j0 k y0 y1 y2) (fix_Sub.j0 (k + 1) y0 y1 y2))
 | 0 => fun _ _ _ r h => by simp [fix_Sub.j0] at h
 | k + 1 => by
  have ih0 := fix_Sub.mono_l k
  ·intro y0 y1 y2
   unfold fix_Sub.j0
   repeat' first
   | (with_reducible exact ih0 _ _ _)
   | (with_reducible exact LeO.refl _)
   | (with_reducible exact LeO.none _)
   | (with_reducible refine LeO.ite ?_ ?_)
   | (with_reducible refine LeO.bind ?_ (fun _ => ?_))
   | exact ih0 _ _ _
   | exact LeO.none _
   | refine LeO.ite ?_ ?_
   | refine LeO.bind ?_ (fun _ => ?_)
theorem fix_Sub.mono : ∀ a0 a1 k, LeO (fix_Sub.f k a0 a1) (fix_Sub.f (k + 1) a0 a1) := by
 intro a0 a1 k
 have ih0 := fix_Sub.mono_l k
 unfold fix_Sub.f
 repeat' first
   | (with_reducible exact ih0 _ _ _)
   | (with_reducible exact LeO.refl _)
   | (with_reducible exact LeO.none _)
   | (with_reducible refine LeO.ite ?_ ?_)
   | (with_reducible refine LeO.bind ?_ (fun _ => ?_))
   | exact ih0 _ _ _
   | exact LeO.none _
   | refine LeO.ite ?_ ?_
   | refine LeO.bind ?_ (fun _ => ?_)
set_option maxHeartbeats 8000000 in
set_option maxRecDepth 100000 in
theorem fix_Sub.calls (k : Nat) (a0 : Int) (a1 : Int) (r : Int) (w : World) (h : fix_Sub.f k a0 a1 = some r) :
  Calls Tryd.prog 18 #[.int .i64 a0, .int .i64 a1] w fun e w' => e = .returned (.int .i64 r) ∧ Drawn0 w w' := by
 have H : (if ((decide (a0 < 0)) == (decide (a1 < 0))) = true then (fix_Sub.j0 k a0 (wrap64 (a0 - a1)) true) else (fix_Sub.j0 k a0 (wrap64 (a0 - a1)) ((decide ((wrap64 (a0 - a1)) < 0)) == (decide (a0 < 0))))) = some r := h
 clear h
 have HC3 := Aside0.mk H
 clear H
 go_enter Tryd.func18, Tryd.ntmps18
 go_upto_region 2 with (fail)
 go_cut [20] (fun v20 wc => ∃ (kq : Nat) (x20_2 : Bool), v20 = .bool x20_2 ∧ Aside0 (fix_Sub.j0 kq a0 (wrap64 (a0 - a1)) x20_2 = some r) ∧ Aside0 (kq ≤ k) ∧ Drawn0 w wc)
 case first =>
  have H := HC3.out
  clear HC3
  by_cases c4 : ((decide (a0 < 0)) == (decide (a1 < 0))) = true
  ·rw [if_pos c4] at H
   have c4b0 : ((decide (a0 < 0)) == (decide (a1 < 0))) = true := c4
   (try (have c4b1 : decide ((decide (a0 < 0)) = (decide (a1 < 0))) = true := by simpa using c4))
   (try (have c4b2 : ((decide (a0 < 0)) == (decide (a1 < 0))) = true := by simpa using c4))
   clear c4
   (first | rw [c4b0] | (simp only [i64_w, i32_w]; rw [c4b0]) | skip)
   have H' := Aside0.mk H
   clear H
   go_wp2
   go_meet
   case rel => exact ⟨_, (true), z1_, H', ⟨by first | omega | exact Nat.le_refl _⟩, by repeat (first | exact Drawn0.refl _ | apply Drawn0.step)⟩
  rw [if_neg c4] at H
  have c4b0 : ((decide (a0 < 0)) == (decide (a1 < 0))) = false := by simpa using c4
  (try (have c4b1 : decide ((decide (a0 < 0)) = (decide (a1 < 0))) = false := by simpa using c4))
  (try (have c4b2 : ((decide (a0 < 0)) == (decide (a1 < 0))) = false := by simpa using c4))
  (try (have c4b3 : ¬ ((decide (a0 < 0)) = (decide (a1 < 0))) := by simpa using c4))
  clear c4
  (first | rw [c4b0] | (simp only [i64_w, i32_w]; rw [c4b0]) | skip)
  have H' := Aside0.mk H
  clear H
  go_wp2
  go_meet
  case rel => exact ⟨_, (((decide ((wrap64 (a0 - a1)) < 0)) == (decide (a0 < 0)))), z1_, H', ⟨by first | omega | exact Nat.le_refl _⟩, by repeat (first | exact Drawn0.refl _ | apply Drawn0.step)⟩
 case rest =>
  clear HC3
  try clear c1
  try clear p2
  try clear c4
  try clear c4b0
  try clear c4b1
  try clear c4b2
  obtain ⟨kq, x20_2, rfl, HA, HJ2, ⟨mc2, rfl⟩⟩ := hcut
  cases kq with
  | zero => exact absurd HA.out (by simp [fix_Sub.j0])
  | succ kj2 =>
   have H := HA.out
   clear HA
   simp only [fix_Sub.j0] at H
   by_cases c5 : x20_2 = true
   ·subst c5
    have H1 : (some (wrap64 (a0 - a1))) = some r := by rw [if_pos rfl] at H; exact H
    clear H
    have H := H1
    clear H1
    obtain rfl := Option.some.inj H
    go_wp2
    go_ret
    exact ⟨by first | rfl | (simp; done) | (simp [*]; done), by repeat (first | exact Drawn0.refl _ | apply Drawn0.step)⟩
   replace c5 := Bool.eq_false_iff.mpr c5
   subst c5
   have H1 := H
   rw [if_neg (show ¬ (false = true) by decide)] at H1
   clear H
   have H := H1
   clear H1
   by_cases c6 : a0 < 0
   ·rw [if_pos c6] at H
    have c6b0 : decide (a0 < 0) = true := decide_eq_true c6
    clear c6
    obtain rfl := Option.some.inj H
    go_wp2
    go_ret
    exact ⟨by first | rfl | (simp; done) | (simp [*]; done), by repeat (first | exact Drawn0.refl _ | apply Drawn0.step)⟩
   rw [if_neg c6] at H
   have c6b0 : decide (a0 < 0) = false := decide_eq_false c6
   clear c6
   obtain rfl := Option.some.inj H
   go_wp2
   go_ret
   exact ⟨by first | rfl | (simp; done) | (simp [*]; done), by repeat (first | exact Drawn0.refl _ | apply Drawn0.step)⟩

/-! ### fix_Neg: function 20 -/
def fix_Neg.f (a0 : Int) : Option (Int) := if a0 = (-9223372036854775808) then (some 9223372036854775807) else (some (wrap64 (-a0)))
set_option maxHeartbeats 8000000 in
set_option maxRecDepth 100000 in
theorem fix_Neg.calls (a0 : Int) (r : Int) (w : World) (h : fix_Neg.f a0 = some r) :
  Calls Tryd.prog 20 #[.int .i64 a0] w fun e w' => e = .returned (.int .i64 r) ∧ Drawn0 w w' := by
 have H : (if a0 = (-9223372036854775808) then (some 9223372036854775807) else (some (wrap64 (-a0)))) = some r := h
 clear h
 by_cases c2 : a0 = (-9223372036854775808)
 rotate_left
 ·rw [if_neg c2] at H
  have c2b0 : (a0 == (-9223372036854775808)) = false := beq_eq_false_iff_ne.mpr c2
  have c2b1 : (a0 != (-9223372036854775808)) = true := bne_iff_ne.mpr c2
  obtain rfl := Option.some.inj H
  go_enter Tryd.func20, Tryd.ntmps20
  go_wp2
  go_ret
  exact ⟨by first | rfl | (simp; done) | (simp [*]; done), by repeat (first | exact Drawn0.refl _ | apply Drawn0.step)⟩
 rw [if_pos c2] at H
 have c2b0 : (a0 == (-9223372036854775808)) = true := beq_iff_eq.mpr c2
 have c2b1 : (a0 != (-9223372036854775808)) = false := bne_eq_false_iff_eq.mpr c2
 clear c2
 obtain rfl := Option.some.inj H
 go_enter Tryd.func20, Tryd.ntmps20
 go_wp2
 go_ret
 exact ⟨by first | rfl | (simp; done) | (simp [*]; done), by repeat (first | exact Drawn0.refl _ | apply Drawn0.step)⟩

/-! ### carousellaw1_FixKnown: function 7 -/
def carousellaw1_FixKnown.f (k : Nat)  : Option (Bool) := (carousellaw1_awake.f k).bind fun t159 => (if t159 = true then ((fix_Add.f k 9223372036854775807 1).bind fun t160 => (if t160 = 9223372036854775807 then ((fix_Sub.f k (-9223372036854775808) 1).bind fun t161 => (if t161 = (-9223372036854775808) then ((fix_Neg.f (-9223372036854775808)).bind fun t162 => (if t162 = 9223372036854775807 then ((fix_Div.f k 5 0).bind fun t163 => (if t163 = 9223372036854775807 then ((fix_Div.f k (-5) 0).bind fun t164 => (if t164 = (-9223372036854775808) then ((fix_Div.f k 0 0).bind fun t165 => (if t165 = 0 then ((fix_Of.f 2147483648).bind fun t166 => (if t166 = 9223372036854775807 then ((fix_Of.f (-2147483648)).bind fun t167 => (if t167 = (-9223372036854775808) then ((fix_Mul.f k 1 2147483648).bind fun t168 => (if t168 = 0 then ((fix_Mul.f k 3 2147483648).bind fun t169 => (if t169 = 2 then ((fix_Mul.f k (-1) 2147483648).bind fun t170 => (if t170 = 0 then ((fix_Div.f k (-9223372036854775808) (-1)).bind fun t171 => (if t171 = 9223372036854775807 then ((fix_Text.f k (-1)).bind fun t172 => (if t172.toList = ([45, 48, 46, 48, 48, 48, 48, 48, 48, 48, 48, 48, 50] : List UInt8) then ((fix_Text.f k 4294967295).bind fun t173 => (some (t173.toList == ([48, 46, 57, 57, 57, 57, 57, 57, 57, 57, 57, 56] : List UInt8)))) else (none))) else (none))) else (none))) else (none))) else (none))) else (none))) else (none))) else (none))) else (none))) else (none))) else (none))) else (none))) else (none))) else (none))
theorem carousellaw1_FixKnown.mono : ∀ k, LeO (carousellaw1_FixKnown.f k ) (carousellaw1_FixKnown.f (k + 1) ) := by
 intro  k
 unfold carousellaw1_FixKnown.f
 repeat' first
   | (with_reducible exact carousellaw1_awake.mono _)
   | (with_reducible exact fix_Add.mono _ _ _)
   | (with_reducible exact fix_Div.mono _ _ _)
   | (with_reducible exact fix_Mul.mono _ _ _)
   | (with_reducible exact fix_Sub.mono _ _ _)
   | (with_reducible exact fix_Text.mono _ _)
   | (with_reducible exact LeO.refl _)
   | (with_reducible exact LeO.none _)
   | (with_reducible refine LeO.ite ?_ ?_)
   | (with_reducible refine LeO.bind ?_ (fun _ => ?_))
   | exact carousellaw1_awake.mono _
   | exact fix_Add.mono _ _ _
   | exact fix_Div.mono _ _ _
   | exact fix_Mul.mono _ _ _
   | exact fix_Sub.mono _ _ _
   | exact fix_Text.mono _ _
   | exact LeO.none _
   | refine LeO.ite ?_ ?_
   | refine LeO.bind ?_ (fun _ => ?_)
set_option maxHeartbeats 8000000 in
set_option maxRecDepth 100000 in
theorem carousellaw1_FixKnown.calls (k : Nat)  (r : Bool) (w : World) (h : carousellaw1_FixKnown.f k  = some r) (hp10 : P10_ w := by first | exact HP10.out | exact p10_below HP10.out (zw0_ HB)) :
  Calls Tryd.prog 7 #[] w fun e w' => e = .returned (.bool r) ∧ Below w.heap.size w w' := by
 have HP10 := Aside0.mk hp10
 clear hp10
 have HB := Aside0.mk (Below.refl w.heap.size w)
 have H : ((carousellaw1_awake.f k).bind fun t159 => (if t159 = true then ((fix_Add.f k 9223372036854775807 1).bind fun t160 => (if t160 = 9223372036854775807 then ((fix_Sub.f k (-9223372036854775808) 1).bind fun t161 => (if t161 = (-9223372036854775808) then ((fix_Neg.f (-9223372036854775808)).bind fun t162 => (if t162 = 9223372036854775807 then ((fix_Div.f k 5 0).bind fun t163 => (if t163 = 9223372036854775807 then ((fix_Div.f k (-5) 0).bind fun t164 => (if t164 = (-9223372036854775808) then ((fix_Div.f k 0 0).bind fun t165 => (if t165 = 0 then ((fix_Of.f 2147483648).bind fun t166 => (if t166 = 9223372036854775807 then ((fix_Of.f (-2147483648)).bind fun t167 => (if t167 = (-9223372036854775808) then ((fix_Mul.f k 1 2147483648).bind fun t168 => (if t168 = 0 then ((fix_Mul.f k 3 2147483648).bind fun t169 => (if t169 = 2 then ((fix_Mul.f k (-1) 2147483648).bind fun t170 => (if t170 = 0 then ((fix_Div.f k (-9223372036854775808) (-1)).bind fun t171 => (if t171 = 9223372036854775807 then ((fix_Text.f k (-1)).bind fun t172 => (if t172.toList = ([45, 48, 46, 48, 48, 48, 48, 48, 48, 48, 48, 48, 50] : List UInt8) then ((fix_Text.f k 4294967295).bind fun t173 => (some (t173.toList == ([48, 46, 57, 57, 57, 57, 57, 57, 57, 57, 57, 56] : List UInt8)))) else (none))) else (none))) else (none))) else (none))) else (none))) else (none))) else (none))) else (none))) else (none))) else (none))) else (none))) else (none))) else (none))) else (none))) = some r := h
 clear h
 replace H := Option.bind_eq_some_iff.mp H
 obtain ⟨t159, A10, H⟩ := H
 (try dsimp only at H)
 have A1 := Aside0.mk A10
 clear A10
 by_cases c2 : t159 = true
 rotate_left
 ·replace c2 := Bool.eq_false_iff.mpr c2
  subst c2
  have H1 : (none) = some r := by rw [if_neg (show ¬ (false = true) by decide)] at H; exact H
  clear H
  have H := H1
  clear H1
  exact absurd H (by simp)
 subst c2
 have H1 := H
 rw [if_pos rfl] at H1
 clear H
 have H := H1
 clear H1
 replace H := Option.bind_eq_some_iff.mp H
 obtain ⟨t160, A30, H⟩ := H
 (try dsimp only at H)
 have A3 := Aside0.mk A30
 clear A30
 by_cases c4 : t160 = 9223372036854775807
 rotate_left
 ·rw [if_neg c4] at H
  exact absurd H (by simp)
 rw [if_pos c4] at H
 have c4b0 : (t160 == 9223372036854775807) = true := beq_iff_eq.mpr c4
 have c4b1 : (t160 != 9223372036854775807) = false := bne_eq_false_iff_eq.mpr c4
 clear c4
 replace H := Option.bind_eq_some_iff.mp H
 obtain ⟨t161, A50, H⟩ := H
 (try dsimp only at H)
 have A5 := Aside0.mk A50
 clear A50
 by_cases c6 : t161 = (-9223372036854775808)
 rotate_left
 ·rw [if_neg c6] at H
  exact absurd H (by simp)
 rw [if_pos c6] at H
 have c6b0 : (t161 == (-9223372036854775808)) = true := beq_iff_eq.mpr c6
 have c6b1 : (t161 != (-9223372036854775808)) = false := bne_eq_false_iff_eq.mpr c6
 clear c6
 replace H := Option.bind_eq_some_iff.mp H
 obtain ⟨t162, A70, H⟩ := H
 (try dsimp only at H)
 have A7 := Aside0.mk A70
 clear A70
 by_cases c8 : t162 = 9223372036854775807
 rotate_left
 ·rw [if_neg c8] at H
  exact absurd H (by simp)
 rw [if_pos c8] at H
 have c8b0 : (t162 == 9223372036854775807) = true := beq_iff_eq.mpr c8
 have c8b1 : (t162 != 9223372036854775807) = false := bne_eq_false_iff_eq.mpr c8
 clear c8
 replace H := Option.bind_eq_some_iff.mp H
 obtain ⟨t163, A90, H⟩ := H
 (try dsimp only at H)
 have A9 := Aside0.mk A90
 clear A90
 by_cases c10 : t163 = 9223372036854775807
 rotate_left
 ·rw [if_neg c10] at H
  exact absurd H (by simp)
 rw [if_pos c10] at H
 have c10b0 : (t163 == 9223372036854775807) = true := beq_iff_eq.mpr c10
 have c10b1 : (t163 != 9223372036854775807) = false := bne_eq_false_iff_eq.mpr c10
 clear c10
 replace H := Option.bind_eq_some_iff.mp H
 obtain ⟨t164, A110, H⟩ := H
 (try dsimp only at H)
 have A11 := Aside0.mk A110
 clear A110
 by_cases c12 : t164 = (-9223372036854775808)
 rotate_left
 ·rw [if_neg c12] at H
  exact absurd H (by simp)
 rw [if_pos c12] at H
 have c12b0 : (t164 == (-9223372036854775808)) = true := beq_iff_eq.mpr c12
 have c12b1 : (t164 != (-9223372036854775808)) = false := bne_eq_false_iff_eq.mpr c12
 clear c12
 replace H := Option.bind_eq_some_iff.mp H
 obtain ⟨t165, A130, H⟩ := H
 (try dsimp only at H)
 have A13 := Aside0.mk A130
 clear A130
 by_cases c14 : t165 = 0
 rotate_left
 ·rw [if_neg c14] at H
  exact absurd H (by simp)
 rw [if_pos c14] at H
 have c14b0 : (t165 == 0) = true := beq_iff_eq.mpr c14
 have c14b1 : (t165 != 0) = false := bne_eq_false_iff_eq.mpr c14
 clear c14
 replace H := Option.bind_eq_some_iff.mp H
 obtain ⟨t166, A150, H⟩ := H
 (try dsimp only at H)
 have A15 := Aside0.mk A150
 clear A150
 by_cases c16 : t166 = 9223372036854775807
 rotate_left
 ·rw [if_neg c16] at H
  exact absurd H (by simp)
 rw [if_pos c16] at H
 have c16b0 : (t166 == 9223372036854775807) = true := beq_iff_eq.mpr c16
 have c16b1 : (t166 != 9223372036854775807) = false := bne_eq_false_iff_eq.mpr c16
 clear c16
 replace H := Option.bind_eq_some_iff.mp H
 obtain ⟨t167, A170, H⟩ := H
 (try dsimp only at H)
 have A17 := Aside0.mk A170
 clear A170
 by_cases c18 : t167 = (-9223372036854775808)
 rotate_left
 ·rw [if_neg c18] at H
  exact absurd H (by simp)
 rw [if_pos c18] at H
 have c18b0 : (t167 == (-9223372036854775808)) = true := beq_iff_eq.mpr c18
 have c18b1 : (t167 != (-9223372036854775808)) = false := bne_eq_false_iff_eq.mpr c18
 clear c18
 replace H := Option.bind_eq_some_iff.mp H
 obtain ⟨t168, A190, H⟩ := H
 (try dsimp only at H)
 have A19 := Aside0.mk A190
 clear A190
 by_cases c20 : t168 = 0
 rotate_left
 ·rw [if_neg c20] at H
  exact absurd H (by simp)
 rw [if_pos c20] at H
 have c20b0 : (t168 == 0) = true := beq_iff_eq.mpr c20
 have c20b1 : (t168 != 0) = false := bne_eq_false_iff_eq.mpr c20
 clear c20
 replace H := Option.bind_eq_some_iff.mp H
 obtain ⟨t169, A210, H⟩ := H
 (try dsimp only at H)
 have A21 := Aside0.mk A210
 clear A210
 by_cases c22 : t169 = 2
 rotate_left
 ·rw [if_neg c22] at H
  exact absurd H (by simp)
 rw [if_pos c22] at H
 have c22b0 : (t169 == 2) = true := beq_iff_eq.mpr c22
 have c22b1 : (t169 != 2) = false := bne_eq_false_iff_eq.mpr c22
 clear c22
 replace H := Option.bind_eq_some_iff.mp H
 obtain ⟨t170, A230, H⟩ := H
 (try dsimp only at H)
 have A23 := Aside0.mk A230
 clear A230
 by_cases c24 : t170 = 0
 rotate_left
 ·rw [if_neg c24] at H
  exact absurd H (by simp)
 rw [if_pos c24] at H
 have c24b0 : (t170 == 0) = true := beq_iff_eq.mpr c24
 have c24b1 : (t170 != 0) = false := bne_eq_false_iff_eq.mpr c24
 clear c24
 replace H := Option.bind_eq_some_iff.mp H
 obtain ⟨t171, A250, H⟩ := H
 (try dsimp only at H)
 have A25 := Aside0.mk A250
 clear A250
 by_cases c26 : t171 = 9223372036854775807
 rotate_left
 ·rw [if_neg c26] at H
  exact absurd H (by simp)
 rw [if_pos c26] at H
 have c26b0 : (t171 == 9223372036854775807) = true := beq_iff_eq.mpr c26
 have c26b1 : (t171 != 9223372036854775807) = false := bne_eq_false_iff_eq.mpr c26
 clear c26
 replace H := Option.bind_eq_some_iff.mp H
 obtain ⟨t172, A270, H⟩ := H
 (try dsimp only at H)
 have A27 := Aside0.mk A270
 clear A270
 by_cases c28 : t172.toList = ([45, 48, 46, 48, 48, 48, 48, 48, 48, 48, 48, 48, 50] : List UInt8)
 rotate_left
 ·rw [if_neg c28] at H
  exact absurd H (by simp)
 rw [if_pos c28] at H
 have c28b0 : (t172.toList == ([45, 48, 46, 48, 48, 48, 48, 48, 48, 48, 48, 48, 50] : List UInt8)) = true := beq_iff_eq.mpr c28
 have c28b1 : (t172.toList != ([45, 48, 46, 48, 48, 48, 48, 48, 48, 48, 48, 48, 50] : List UInt8)) = false := bne_eq_false_iff_eq.mpr c28
 clear c28
 replace H := Option.bind_eq_some_iff.mp H
 obtain ⟨t173, A290, H⟩ := H
 replace H : (some (t173.toList == ([48, 46, 57, 57, 57, 57, 57, 57, 57, 57, 57, 56] : List UInt8))) = some r := H
 have A29 := Aside0.mk A290
 clear A290
 obtain rfl := Option.some.inj H
 go_enter Tryd.func7, Tryd.ntmps7
 go_wp2_with (first | ((with_reducible refine gate_callee (f := 11) rfl ?_); refine zg_ (some 1) Tryd.func11 #[] (h := ?_); (with_reducible refine (carousellaw1_awake.calls k  true _ A1.out).mono ?_); rintro e w30 ⟨rfl, hb⟩; refine ⟨_, rfl, ?_⟩; replace HB := Aside0.mk (below_step (zw0_ HB) hb); (try clear hb)) | (go_at_call 17; (with_reducible refine (fix_Add.calls k 9223372036854775807 1 t160 _ A3.out).mono ?_); rintro e w' ⟨rfl, ⟨nd, rfl⟩⟩) | (go_at_call 18; (with_reducible refine (fix_Sub.calls k (-9223372036854775808) 1 t161 _ A5.out).mono ?_); rintro e w' ⟨rfl, ⟨nd, rfl⟩⟩) | (go_at_call 20; (with_reducible refine (fix_Neg.calls (-9223372036854775808) t162 _ A7.out).mono ?_); rintro e w' ⟨rfl, ⟨nd, rfl⟩⟩) | (go_at_call 19; (with_reducible refine (fix_Div.calls k 5 0 t163 _ A9.out).mono ?_); rintro e w' ⟨rfl, ⟨nd, rfl⟩⟩) | (go_at_call 19; (with_reducible refine (fix_Div.calls k (-5) 0 t164 _ A11.out).mono ?_); rintro e w' ⟨rfl, ⟨nd, rfl⟩⟩) | (go_at_call 19; (with_reducible refine (fix_Div.calls k 0 0 t165 _ A13.out).mono ?_); rintro e w' ⟨rfl, ⟨nd, rfl⟩⟩) | (go_at_call 12; (with_reducible refine (fix_Of.calls 2147483648 t166 _ A15.out).mono ?_); rintro e w' ⟨rfl, ⟨nd, rfl⟩⟩) | (go_at_call 12; (with_reducible refine (fix_Of.calls (-2147483648) t167 _ A17.out).mono ?_); rintro e w' ⟨rfl, ⟨nd, rfl⟩⟩) | (go_at_call 16; (with_reducible refine (fix_Mul.calls k 1 2147483648 t168 _ A19.out).mono ?_); rintro e w' ⟨rfl, ⟨nd, rfl⟩⟩) | (go_at_call 16; (with_reducible refine (fix_Mul.calls k 3 2147483648 t169 _ A21.out).mono ?_); rintro e w' ⟨rfl, ⟨nd, rfl⟩⟩) | (go_at_call 16; (with_reducible refine (fix_Mul.calls k (-1) 2147483648 t170 _ A23.out).mono ?_); rintro e w' ⟨rfl, ⟨nd, rfl⟩⟩) | (go_at_call 19; (with_reducible refine (fix_Div.calls k (-9223372036854775808) (-1) t171 _ A25.out).mono ?_); rintro e w' ⟨rfl, ⟨nd, rfl⟩⟩) | (go_at_call 14; (with_reducible refine (fix_Text.calls k (-1) t172 _ A27.out).mono ?_); rintro e w31 ⟨rfl, hb⟩; replace HB := Aside0.mk (below_step (zw0_ HB) hb); (try clear hb)) | (go_at_call 14; (with_reducible refine (fix_Text.calls k 4294967295 t173 _ A29.out).mono ?_); rintro e w32 ⟨rfl, hb⟩; replace HB := Aside0.mk (below_step (zw0_ HB) hb); (try clear hb)))
 go_ret
 exact ⟨z0_, zw0_ HB⟩

/-- THE ONE PURE STATEMENT of carousellaw1_FixKnown: yours. -/
def carousellaw1_FixKnown.Pure : Prop := ∃ k, carousellaw1_FixKnown.f k  = some true
theorem carousellaw1_FixKnown.walk (P : carousellaw1_FixKnown.Pure)  (w : World)  (hp10 : P10_ w := by first | exact HP10.out | exact p10_below HP10.out (zw0_ HB)) :
  Calls Tryd.prog 7 #[] w fun e w' => e = .returned (.bool true) ∧ Below w.heap.size w w' := by
 have HP10 := Aside0.mk hp10
 clear hp10
 obtain ⟨k, h⟩ := P  
 refine (carousellaw1_FixKnown.calls k  true w h).mono ?_
 rintro e w' ⟨rfl, hd⟩
 exact ⟨rfl, hd⟩

end Go.Proofs.YtjiloachlemlcaaDoor.PFixKnown
