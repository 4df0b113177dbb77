/- The functions that the law FixWhole reaches, as Lean functions, and that each call of the Go function does what its Lean function says, wherever that one answers. Written by a program of mine over the print of the kit; Lean checks it. -/
import Derived.Test.YtjiloachlemlcaaDoorPFixWholex0
import Derived.Test.YtjiloachlemlcaaDoorPFixWholex1
import Derived.Test.YtjiloachlemlcaaDoorPFixWholex3
import Derived.Test.YtjiloachlemlcaaDoorPFixWholex4
namespace Go.Proofs.YtjiloachlemlcaaDoor.PFixWhole
open Go.RowKit Go.Proofs.YtjiloachlemlcaaDoorW.PrintWords Go.Proofs.YtjiloachlemlcaaDoorW.PrintLast Go.Proofs.YtjiloachlemlcaaDoorW.PrintMore
attribute [local go_sem] max2_int min2_int max_two min_two max_three min_three max_four min_four   -- for this text's walks alone
set_option linter.unusedVariables false
set_option linter.unusedSimpArgs false

/-! ### carousellaw1_awake: function 11 -/
def carousellaw1_awake.f (k : Nat)  : Option (Bool) := (fix_Mul.f k 4294967296 4294967296).bind fun t156 => (if t156 = 4294967296 then ((fix_Of.f 3).bind fun t157 => ((fix_Div.f k 4294967296 t157).bind fun t158 => (if t158 = 1431655765 then ((fix_Text.f k 4294967296).bind fun t159 => (some (t159.toList == ([49, 46, 48, 48, 48, 48, 48, 48, 48, 48, 48, 48] : List UInt8)))) else (none)))) else (none))
theorem carousellaw1_awake.mono : ∀ k, LeO (carousellaw1_awake.f k ) (carousellaw1_awake.f (k + 1) ) := by
 intro  k
 unfold carousellaw1_awake.f
 repeat' first
   | (with_reducible exact fix_Div.mono _ _ _)
   | (with_reducible exact fix_Mul.mono _ _ _)
   | (with_reducible exact fix_Text.mono _ _)
   | (with_reducible exact LeO.refl _)
   | (with_reducible exact LeO.none _)
   | (with_reducible refine LeO.ite ?_ ?_)
   | (with_reducible refine LeO.bind ?_ (fun _ => ?_))
   | exact fix_Div.mono _ _ _
   | exact fix_Mul.mono _ _ _
   | exact fix_Text.mono _ _
   | exact LeO.none _
   | refine LeO.ite ?_ ?_
   | refine LeO.bind ?_ (fun _ => ?_)
set_option maxHeartbeats 8000000 in
set_option maxRecDepth 100000 in
theorem carousellaw1_awake.calls (k : Nat)  (r : Bool) (w : World) (h : carousellaw1_awake.f k  = some r) :
  Calls Tryd.prog 11 #[] w fun e w' => e = .returned (.bool r) ∧ Below w.heap.size w w' := by
 have HB := Aside0.mk (Below.refl w.heap.size w)
 have H : ((fix_Mul.f k 4294967296 4294967296).bind fun t156 => (if t156 = 4294967296 then ((fix_Of.f 3).bind fun t157 => ((fix_Div.f k 4294967296 t157).bind fun t158 => (if t158 = 1431655765 then ((fix_Text.f k 4294967296).bind fun t159 => (some (t159.toList == ([49, 46, 48, 48, 48, 48, 48, 48, 48, 48, 48, 48] : List UInt8)))) else (none)))) else (none))) = some r := h
 clear h
 replace H := Option.bind_eq_some_iff.mp H
 obtain ⟨t156, A10, H⟩ := H
 (try dsimp only at H)
 have A1 := Aside0.mk A10
 clear A10
 by_cases c2 : t156 = 4294967296
 ·rw [if_pos c2] at H
  have c2b0 : (t156 == 4294967296) = true := beq_iff_eq.mpr c2
  have c2b1 : (t156 != 4294967296) = false := bne_eq_false_iff_eq.mpr c2
  clear c2
  replace H := Option.bind_eq_some_iff.mp H
  obtain ⟨t157, A30, H⟩ := H
  (try dsimp only at H)
  have A3 := Aside0.mk A30
  clear A30
  replace H := Option.bind_eq_some_iff.mp H
  obtain ⟨t158, A40, H⟩ := H
  (try dsimp only at H)
  have A4 := Aside0.mk A40
  clear A40
  by_cases c5 : t158 = 1431655765
  ·rw [if_pos c5] at H
   have c5b0 : (t158 == 1431655765) = true := beq_iff_eq.mpr c5
   have c5b1 : (t158 != 1431655765) = false := bne_eq_false_iff_eq.mpr c5
   clear c5
   replace H := Option.bind_eq_some_iff.mp H
   obtain ⟨t159, A60, H⟩ := H
   replace H : (some (t159.toList == ([49, 46, 48, 48, 48, 48, 48, 48, 48, 48, 48, 48] : List UInt8))) = some r := H
   have A6 := Aside0.mk A60
   clear A60
   obtain rfl := Option.some.inj H
   go_enter Tryd.func11, Tryd.ntmps11
   go_wp2_with (first | ((with_reducible refine gate_callee (f := 16) rfl ?_); refine zg_ (some 1) Tryd.func16 #[.int .i64 4294967296, .int .i64 4294967296] (h := ?_); (with_reducible refine (fix_Mul.calls k 4294967296 4294967296 t156 _ A1.out).mono ?_); rintro e w' ⟨rfl, ⟨nd, rfl⟩⟩; refine ⟨_, rfl, ?_⟩) | (go_at_call 12; (with_reducible refine (fix_Of.calls 3 t157 _ A3.out).mono ?_); rintro e w' ⟨rfl, ⟨nd, rfl⟩⟩) | (go_at_call 19; (with_reducible refine (fix_Div.calls k 4294967296 t157 t158 _ A4.out).mono ?_); rintro e w' ⟨rfl, ⟨nd, rfl⟩⟩) | (go_at_call 14; (with_reducible refine (fix_Text.calls k 4294967296 t159 _ A6.out).mono ?_); rintro e w7 ⟨rfl, hb⟩; replace HB := Aside0.mk (below_step (zw0_ HB) hb); (try clear hb)))
   go_ret
   exact ⟨by first | rfl | (simp [errW_none, errW_some] <;> rfl) | (simp [*, errW_none, errW_some] <;> rfl), zw0_ HB⟩
  ·rw [if_neg c5] at H
   exact absurd H (by simp)
 ·rw [if_neg c2] at H
  exact absurd H (by simp)

/-! ### fix_Add: function 17 -/
def fix_Add.j0 : Nat → Int → Int → Bool → Option (Int)
 | 0, _, _, _ => none
 | k + 1, x0, x5, x20 => if x20 = true then (some x5) else (if x0 < 0 then (some (-9223372036854775808)) else (some 9223372036854775807))
def fix_Add.f (k : Nat) (a0 : Int) (a1 : Int) : Option (Int) := if ((decide (a0 < 0)) != (decide (a1 < 0))) = true then (fix_Add.j0 k a0 (wrap64 (a0 + a1)) true) else (fix_Add.j0 k a0 (wrap64 (a0 + a1)) ((decide ((wrap64 (a0 + a1)) < 0)) == (decide (a0 < 0))))
theorem fix_Add.mono_l : ∀ k, (∀ y0 y1 y2, LeO (fix_Add.j0 k y0 y1 y2) (fix_Add.j0 (k + 1) y0 y1 y2))
 | 0 => fun _ _ _ r h => by simp [fix_Add.j0] at h
 | k + 1 => by
  have ih0 := fix_Add.mono_l k
  ·intro y0 y1 y2
   unfold fix_Add.j0
   repeat' first
   | (with_reducible exact ih0 _ _ _)
   | (with_reducible exact LeO.refl _)
   | (with_reducible exact LeO.none _)
   | (with_reducible refine LeO.ite ?_ ?_)
   | (with_reducible refine LeO.bind ?_ (fun _ => ?_))
   | exact ih0 _ _ _
   | exact LeO.none _
   | refine LeO.ite ?_ ?_
   | refine LeO.bind ?_ (fun _ => ?_)
theorem fix_Add.mono : ∀ a0 a1 k, LeO (fix_Add.f k a0 a1) (fix_Add.f (k + 1) a0 a1) := by
 intro a0 a1 k
 have ih0 := fix_Add.mono_l k
 unfold fix_Add.f
 repeat' first
   | (with_reducible exact ih0 _ _ _)
   | (with_reducible exact LeO.refl _)
   | (with_reducible exact LeO.none _)
   | (with_reducible refine LeO.ite ?_ ?_)
   | (with_reducible refine LeO.bind ?_ (fun _ => ?_))
   | exact ih0 _ _ _
   | exact LeO.none _
   | refine LeO.ite ?_ ?_
   | refine LeO.bind ?_ (fun _ => ?_)
set_option maxHeartbeats 8000000 in
set_option maxRecDepth 100000 in
theorem fix_Add.calls (k : Nat) (a0 : Int) (a1 : Int) (r : Int) (w : World) (h : fix_Add.f k a0 a1 = some r) :
  Calls Tryd.prog 17 #[.int .i64 a0, .int .i64 a1] w fun e w' => e = .returned (.int .i64 r) ∧ Drawn0 w w' := by
 have H : (if ((decide (a0 < 0)) != (decide (a1 < 0))) = true then (fix_Add.j0 k a0 (wrap64 (a0 + a1)) true) else (fix_Add.j0 k a0 (wrap64 (a0 + a1)) ((decide ((wrap64 (a0 + a1)) < 0)) == (decide (a0 < 0))))) = some r := h
 clear h
 have HC3 := Aside0.mk H
 clear H
 go_enter Tryd.func17, Tryd.ntmps17
 go_upto_region 2 with (fail)
 go_cut [20] (fun v20 wc => ∃ (kq : Nat) (x20_2 : Bool), v20 = .bool x20_2 ∧ Aside0 (fix_Add.j0 kq a0 (wrap64 (a0 + a1)) x20_2 = some r) ∧ Aside0 (kq ≤ k) ∧ Drawn0 w wc)
 case first =>
  have H := HC3.out
  clear HC3
  by_cases c4 : ((decide (a0 < 0)) != (decide (a1 < 0))) = true
  ·rw [if_pos c4] at H
   have c4b0 : ((decide (a0 < 0)) != (decide (a1 < 0))) = true := c4
   (try (have c4b1 : decide ((decide (a0 < 0)) = (decide (a1 < 0))) = false := by simpa using c4))
   (try (have c4b2 : ((decide (a0 < 0)) == (decide (a1 < 0))) = false := by simpa using c4))
   (try (have c4b3 : ¬ ((decide (a0 < 0)) = (decide (a1 < 0))) := by simpa using c4))
   clear c4
   (first | rw [c4b0] | (simp only [i64_w, i32_w]; rw [c4b0]) | skip)
   have H' := Aside0.mk H
   clear H
   go_wp2
   go_meet
   case rel => exact ⟨_, (true), (by first | rfl | (simp; done) | (simp [*]; done)), H', ⟨by first | omega | exact Nat.le_refl _⟩, by repeat (first | exact Drawn0.refl _ | apply Drawn0.step)⟩
  ·rw [if_neg c4] at H
   have c4b0 : ((decide (a0 < 0)) != (decide (a1 < 0))) = false := by simpa using c4
   (try (have c4b1 : decide ((decide (a0 < 0)) = (decide (a1 < 0))) = true := by simpa using c4))
   (try (have c4b2 : ((decide (a0 < 0)) == (decide (a1 < 0))) = true := by simpa using c4))
   clear c4
   (first | rw [c4b0] | (simp only [i64_w, i32_w]; rw [c4b0]) | skip)
   have H' := Aside0.mk H
   clear H
   go_wp2
   go_meet
   case rel => exact ⟨_, (((decide ((wrap64 (a0 + a1)) < 0)) == (decide (a0 < 0)))), (by first | rfl | (simp; done) | (simp [*]; done)), H', ⟨by first | omega | exact Nat.le_refl _⟩, by repeat (first | exact Drawn0.refl _ | apply Drawn0.step)⟩
 case rest =>
  clear HC3
  try clear c1
  try clear p2
  try clear c4
  try clear c4b0
  try clear c4b1
  try clear c4b2
  obtain ⟨kq, x20_2, rfl, HA, HJ2, ⟨mc2, rfl⟩⟩ := hcut
  cases kq with
  | zero => exact absurd HA.out (by simp [fix_Add.j0])
  | succ kj2 =>
   have H := HA.out
   clear HA
   simp only [fix_Add.j0] at H
   by_cases c5 : x20_2 = true
   ·subst c5
    have H1 : (some (wrap64 (a0 + a1))) = some r := by rw [if_pos rfl] at H; exact H
    clear H
    have H := H1
    clear H1
    obtain rfl := Option.some.inj H
    go_wp2
    go_ret
    exact ⟨by first | rfl | (simp; done) | (simp [*]; done), by repeat (first | exact Drawn0.refl _ | apply Drawn0.step)⟩
   ·replace c5 := Bool.eq_false_iff.mpr c5
    subst c5
    have H1 := H
    rw [if_neg (show ¬ (false = true) by decide)] at H1
    clear H
    have H := H1
    clear H1
    by_cases c6 : a0 < 0
    ·rw [if_pos c6] at H
     have c6b0 : decide (a0 < 0) = true := decide_eq_true c6
     clear c6
     obtain rfl := Option.some.inj H
     go_wp2
     go_ret
     exact ⟨by first | rfl | (simp; done) | (simp [*]; done), by repeat (first | exact Drawn0.refl _ | apply Drawn0.step)⟩
    ·rw [if_neg c6] at H
     have c6b0 : decide (a0 < 0) = false := decide_eq_false c6
     clear c6
     obtain rfl := Option.some.inj H
     go_wp2
     go_ret
     exact ⟨by first | rfl | (simp; done) | (simp [*]; done), by repeat (first | exact Drawn0.refl _ | apply Drawn0.step)⟩

/-! ### fix_Sub: function 18 -/
def fix_Sub.j0 : Nat → Int → Int → Bool → Option (Int)
 | 0, _, _, _ => none
 | k + 1, x0, x5, x20 => if x20 = true then (some x5) else (if x0 < 0 then (some (-9223372036854775808)) else (some 9223372036854775807))
def fix_Sub.f (k : Nat) (a0 : Int) (a1 : Int) : Option (Int) := if ((decide (a0 < 0)) == (decide (a1 < 0))) = true then (fix_Sub.j0 k a0 (wrap64 (a0 - a1)) true) else (fix_Sub.j0 k a0 (wrap64 (a0 - a1)) ((decide ((wrap64 (a0 - a1)) < 0)) == (decide (a0 < 0))))
theorem fix_Sub.mono_l : ∀ k, (∀ y0 y1 y2, LeO (fix_Sub.j0 k y0 y1 y2) (fix_Sub.j0 (k + 1) y0 y1 y2))
 | 0 => fun _ _ _ r h => by simp [fix_Sub.j0] at h
 | k + 1 => by
  have ih0 := fix_Sub.mono_l k
  ·intro y0 y1 y2
   unfold fix_Sub.j0
   repeat' first
   | (with_reducible exact ih0 _ _ _)
   | (with_reducible exact LeO.refl _)
   | (with_reducible exact LeO.none _)
   | (with_reducible refine LeO.ite ?_ ?_)
   | (with_reducible refine LeO.bind ?_ (fun _ => ?_))
   | exact ih0 _ _ _
   | exact LeO.none _
   | refine LeO.ite ?_ ?_
   | refine LeO.bind ?_ (fun _ => ?_)
theorem fix_Sub.mono : ∀ a0 a1 k, LeO (fix_Sub.f k a0 a1) (fix_Sub.f (k + 1) a0 a1) := by
 intro a0 a1 k
 have ih0 := fix_Sub.mono_l k
 unfold fix_Sub.f
 repeat' first
   | (with_reducible exact ih0 _ _ _)
   | (with_reducible exact LeO.refl _)
   | (with_reducible exact LeO.none _)
   | (with_reducible refine LeO.ite ?_ ?_)
   | (with_reducible refine LeO.bind ?_ (fun _ => ?_))
   | exact ih0 _ _ _
   | exact LeO.none _
   | refine LeO.ite ?_ ?_
   | refine LeO.bind ?_ (fun _ => ?_)
set_option maxHeartbeats 8000000 in
set_option maxRecDepth 100000 in
theorem fix_Sub.calls (k : Nat) (a0 : Int) (a1 : Int) (r : Int) (w : World) (h : fix_Sub.f k a0 a1 = some r) :
  Calls Tryd.prog 18 #[.int .i64 a0, .int .i64 a1] w fun e w' => e = .returned (.int .i64 r) ∧ Drawn0 w w' := by
 have H : (if ((decide (a0 < 0)) == (decide (a1 < 0))) = true then (fix_Sub.j0 k a0 (wrap64 (a0 - a1)) true) else (fix_Sub.j0 k a0 (wrap64 (a0 - a1)) ((decide ((wrap64 (a0 - a1)) < 0)) == (decide (a0 < 0))))) = some r := h
 clear h
 have HC3 := Aside0.mk H
 clear H
 go_enter Tryd.func18, Tryd.ntmps18
 go_upto_region 2 with (fail)
 go_cut [20] (fun v20 wc => ∃ (kq : Nat) (x20_2 : Bool), v20 = .bool x20_2 ∧ Aside0 (fix_Sub.j0 kq a0 (wrap64 (a0 - a1)) x20_2 = some r) ∧ Aside0 (kq ≤ k) ∧ Drawn0 w wc)
 case first =>
  have H := HC3.out
  clear HC3
  by_cases c4 : ((decide (a0 < 0)) == (decide (a1 < 0))) = true
  ·rw [if_pos c4] at H
   have c4b0 : ((decide (a0 < 0)) == (decide (a1 < 0))) = true := c4
   (try (have c4b1 : decide ((decide (a0 < 0)) = (decide (a1 < 0))) = true := by simpa using c4))
   (try (have c4b2 : ((decide (a0 < 0)) == (decide (a1 < 0))) = true := by simpa using c4))
   clear c4
   (first | rw [c4b0] | (simp only [i64_w, i32_w]; rw [c4b0]) | skip)
   have H' := Aside0.mk H
   clear H
   go_wp2
   go_meet
   case rel => exact ⟨_, (true), (by first | rfl | (simp; done) | (simp [*]; done)), H', ⟨by first | omega | exact Nat.le_refl _⟩, by repeat (first | exact Drawn0.refl _ | apply Drawn0.step)⟩
  ·rw [if_neg c4] at H
   have c4b0 : ((decide (a0 < 0)) == (decide (a1 < 0))) = false := by simpa using c4
   (try (have c4b1 : decide ((decide (a0 < 0)) = (decide (a1 < 0))) = false := by simpa using c4))
   (try (have c4b2 : ((decide (a0 < 0)) == (decide (a1 < 0))) = false := by simpa using c4))
   (try (have c4b3 : ¬ ((decide (a0 < 0)) = (decide (a1 < 0))) := by simpa using c4))
   clear c4
   (first | rw [c4b0] | (simp only [i64_w, i32_w]; rw [c4b0]) | skip)
   have H' := Aside0.mk H
   clear H
   go_wp2
   go_meet
   case rel => exact ⟨_, (((decide ((wrap64 (a0 - a1)) < 0)) == (decide (a0 < 0)))), (by first | rfl | (simp; done) | (simp [*]; done)), H', ⟨by first | omega | exact Nat.le_refl _⟩, by repeat (first | exact Drawn0.refl _ | apply Drawn0.step)⟩
 case rest =>
  clear HC3
  try clear c1
  try clear p2
  try clear c4
  try clear c4b0
  try clear c4b1
  try clear c4b2
  obtain ⟨kq, x20_2, rfl, HA, HJ2, ⟨mc2, rfl⟩⟩ := hcut
  cases kq with
  | zero => exact absurd HA.out (by simp [fix_Sub.j0])
  | succ kj2 =>
   have H := HA.out
   clear HA
   simp only [fix_Sub.j0] at H
   by_cases c5 : x20_2 = true
   ·subst c5
    have H1 : (some (wrap64 (a0 - a1))) = some r := by rw [if_pos rfl] at H; exact H
    clear H
    have H := H1
    clear H1
    obtain rfl := Option.some.inj H
    go_wp2
    go_ret
    exact ⟨by first | rfl | (simp; done) | (simp [*]; done), by repeat (first | exact Drawn0.refl _ | apply Drawn0.step)⟩
   ·replace c5 := Bool.eq_false_iff.mpr c5
    subst c5
    have H1 := H
    rw [if_neg (show ¬ (false = true) by decide)] at H1
    clear H
    have H := H1
    clear H1
    by_cases c6 : a0 < 0
    ·rw [if_pos c6] at H
     have c6b0 : decide (a0 < 0) = true := decide_eq_true c6
     clear c6
     obtain rfl := Option.some.inj H
     go_wp2
     go_ret
     exact ⟨by first | rfl | (simp; done) | (simp [*]; done), by repeat (first | exact Drawn0.refl _ | apply Drawn0.step)⟩
    ·rw [if_neg c6] at H
     have c6b0 : decide (a0 < 0) = false := decide_eq_false c6
     clear c6
     obtain rfl := Option.some.inj H
     go_wp2
     go_ret
     exact ⟨by first | rfl | (simp; done) | (simp [*]; done), by repeat (first | exact Drawn0.refl _ | apply Drawn0.step)⟩

/-! ### fix_Cmp: function 21 -/
def fix_Cmp.f (a0 : Int) (a1 : Int) : Option (Int) := if a0 < a1 then (some (-1)) else (if a0 > a1 then (some 1) else (some 0))
set_option maxHeartbeats 8000000 in
set_option maxRecDepth 100000 in
theorem fix_Cmp.calls (a0 : Int) (a1 : Int) (r : Int) (w : World) (h : fix_Cmp.f a0 a1 = some r) :
  Calls Tryd.prog 21 #[.int .i64 a0, .int .i64 a1] w fun e w' => e = .returned (.int .i64 r) ∧ Drawn0 w w' := by
 have H : (if a0 < a1 then (some (-1)) else (if a0 > a1 then (some 1) else (some 0))) = some r := h
 clear h
 by_cases c3 : a0 < a1
 ·rw [if_pos c3] at H
  have c3b0 : decide (a0 < a1) = true := decide_eq_true c3
  clear c3
  obtain rfl := Option.some.inj H
  go_enter Tryd.func21, Tryd.ntmps21
  go_wp2
  go_ret
  exact ⟨by first | rfl | (simp; done) | (simp [*]; done), by repeat (first | exact Drawn0.refl _ | apply Drawn0.step)⟩
 ·rw [if_neg c3] at H
  have c3b0 : decide (a0 < a1) = false := decide_eq_false c3
  clear c3
  by_cases c4 : a0 > a1
  ·rw [if_pos c4] at H
   have c4b0 : decide (a1 < a0) = true := decide_eq_true c4
   clear c4
   obtain rfl := Option.some.inj H
   go_enter Tryd.func21, Tryd.ntmps21
   go_wp2
   go_ret
   exact ⟨by first | rfl | (simp; done) | (simp [*]; done), by repeat (first | exact Drawn0.refl _ | apply Drawn0.step)⟩
  ·rw [if_neg c4] at H
   have c4b0 : decide (a1 < a0) = false := decide_eq_false c4
   clear c4
   obtain rfl := Option.some.inj H
   go_enter Tryd.func21, Tryd.ntmps21
   go_wp2
   go_ret
   exact ⟨by first | rfl | (simp; done) | (simp [*]; done), by repeat (first | exact Drawn0.refl _ | apply Drawn0.step)⟩

/-! ### carousellaw1_cmp: function 22 -/
def carousellaw1_cmp.f (a0 : Int) (a1 : Int) : Option (Int) := if a0 < a1 then (some (-1)) else (if a0 > a1 then (some 1) else (some 0))
set_option maxHeartbeats 8000000 in
set_option maxRecDepth 100000 in
theorem carousellaw1_cmp.calls (a0 : Int) (a1 : Int) (r : Int) (w : World) (h : carousellaw1_cmp.f a0 a1 = some r) :
  Calls Tryd.prog 22 #[.int .i64 a0, .int .i64 a1] w fun e w' => e = .returned (.int .i64 r) ∧ Drawn0 w w' := by
 have H : (if a0 < a1 then (some (-1)) else (if a0 > a1 then (some 1) else (some 0))) = some r := h
 clear h
 by_cases c3 : a0 < a1
 ·rw [if_pos c3] at H
  have c3b0 : decide (a0 < a1) = true := decide_eq_true c3
  clear c3
  obtain rfl := Option.some.inj H
  go_enter Tryd.func22, Tryd.ntmps22
  go_wp2
  go_ret
  exact ⟨by first | rfl | (simp; done) | (simp [*]; done), by repeat (first | exact Drawn0.refl _ | apply Drawn0.step)⟩
 ·rw [if_neg c3] at H
  have c3b0 : decide (a0 < a1) = false := decide_eq_false c3
  clear c3
  by_cases c4 : a0 > a1
  ·rw [if_pos c4] at H
   have c4b0 : decide (a1 < a0) = true := decide_eq_true c4
   clear c4
   obtain rfl := Option.some.inj H
   go_enter Tryd.func22, Tryd.ntmps22
   go_wp2
   go_ret
   exact ⟨by first | rfl | (simp; done) | (simp [*]; done), by repeat (first | exact Drawn0.refl _ | apply Drawn0.step)⟩
  ·rw [if_neg c4] at H
   have c4b0 : decide (a1 < a0) = false := decide_eq_false c4
   clear c4
   obtain rfl := Option.some.inj H
   go_enter Tryd.func22, Tryd.ntmps22
   go_wp2
   go_ret
   exact ⟨by first | rfl | (simp; done) | (simp [*]; done), by repeat (first | exact Drawn0.refl _ | apply Drawn0.step)⟩

/-! ### carousellaw1_FixWhole: function 9 -/
def carousellaw1_FixWhole.f (k : Nat) (a0 : Int) (a1 : Int) : Option (Bool) := (carousellaw1_awake.f k).bind fun t160 => (if t160 = true then ((fix_Of.f (wrap64 (a0))).bind fun t161 => ((fix_Of.f (wrap64 (a1))).bind fun t162 => ((fix_Add.f k t161 t162).bind fun t163 => ((fix_Of.f (wrap64 ((wrap64 (a0)) + (wrap64 (a1))))).bind fun t164 => (if t163 = t164 then ((fix_Of.f (wrap64 (a0))).bind fun t165 => ((fix_Of.f (wrap64 (a1))).bind fun t166 => ((fix_Sub.f k t165 t166).bind fun t167 => ((fix_Of.f (wrap64 ((wrap64 (a0)) - (wrap64 (a1))))).bind fun t168 => (if t167 = t168 then ((fix_Of.f (wrap64 (a0))).bind fun t169 => ((fix_Of.f (wrap64 (a1))).bind fun t170 => ((fix_Mul.f k t169 t170).bind fun t171 => ((fix_Of.f (wrap64 ((wrap64 (a0)) * (wrap64 (a1))))).bind fun t172 => (if t171 = t172 then (if (wrap64 (a1)) = 0 then ((fix_Of.f (wrap64 (a0))).bind fun t173 => ((fix_Of.f (wrap64 (a1))).bind fun t174 => ((fix_Cmp.f t173 t174).bind fun t175 => ((carousellaw1_cmp.f (wrap64 (a0)) (wrap64 (a1))).bind fun t176 => (some (t175 == t176)))))) else ((fix_Of.f (wrap64 ((wrap64 (a0)) * (wrap64 (a1))))).bind fun t177 => ((fix_Of.f (wrap64 (a1))).bind fun t178 => ((fix_Div.f k t177 t178).bind fun t179 => ((fix_Of.f (wrap64 (a0))).bind fun t180 => (if t179 = t180 then ((fix_Of.f (wrap64 (a0))).bind fun t181 => ((fix_Of.f (wrap64 (a1))).bind fun t182 => ((fix_Cmp.f t181 t182).bind fun t183 => ((carousellaw1_cmp.f (wrap64 (a0)) (wrap64 (a1))).bind fun t184 => (some (t183 == t184)))))) else (none))))))) else (none)))))) else (none)))))) else (none)))))) else (none))
theorem carousellaw1_FixWhole.mono : ∀ a0 a1 k, LeO (carousellaw1_FixWhole.f k a0 a1) (carousellaw1_FixWhole.f (k + 1) a0 a1) := by
 intro a0 a1 k
 unfold carousellaw1_FixWhole.f
 repeat' first
   | (with_reducible exact carousellaw1_awake.mono _)
   | (with_reducible exact fix_Add.mono _ _ _)
   | (with_reducible exact fix_Div.mono _ _ _)
   | (with_reducible exact fix_Mul.mono _ _ _)
   | (with_reducible exact fix_Sub.mono _ _ _)
   | (with_reducible exact LeO.refl _)
   | (with_reducible exact LeO.none _)
   | (with_reducible refine LeO.ite ?_ ?_)
   | (with_reducible refine LeO.bind ?_ (fun _ => ?_))
   | exact carousellaw1_awake.mono _
   | exact fix_Add.mono _ _ _
   | exact fix_Div.mono _ _ _
   | exact fix_Mul.mono _ _ _
   | exact fix_Sub.mono _ _ _
   | exact LeO.none _
   | refine LeO.ite ?_ ?_
   | refine LeO.bind ?_ (fun _ => ?_)
set_option maxHeartbeats 8000000 in
set_option maxRecDepth 100000 in
theorem carousellaw1_FixWhole.calls (k : Nat) (a0 : Int) (a1 : Int) (r : Bool) (w : World) (h : carousellaw1_FixWhole.f k a0 a1 = some r) :
  Calls Tryd.prog 9 #[.int .i16 a0, .int .i16 a1] w fun e w' => e = .returned (.bool r) ∧ Below w.heap.size w w' := by
 have HB := Aside0.mk (Below.refl w.heap.size w)
 have H : ((carousellaw1_awake.f k).bind fun t160 => (if t160 = true then ((fix_Of.f (wrap64 (a0))).bind fun t161 => ((fix_Of.f (wrap64 (a1))).bind fun t162 => ((fix_Add.f k t161 t162).bind fun t163 => ((fix_Of.f (wrap64 ((wrap64 (a0)) + (wrap64 (a1))))).bind fun t164 => (if t163 = t164 then ((fix_Of.f (wrap64 (a0))).bind fun t165 => ((fix_Of.f (wrap64 (a1))).bind fun t166 => ((fix_Sub.f k t165 t166).bind fun t167 => ((fix_Of.f (wrap64 ((wrap64 (a0)) - (wrap64 (a1))))).bind fun t168 => (if t167 = t168 then ((fix_Of.f (wrap64 (a0))).bind fun t169 => ((fix_Of.f (wrap64 (a1))).bind fun t170 => ((fix_Mul.f k t169 t170).bind fun t171 => ((fix_Of.f (wrap64 ((wrap64 (a0)) * (wrap64 (a1))))).bind fun t172 => (if t171 = t172 then (if (wrap64 (a1)) = 0 then ((fix_Of.f (wrap64 (a0))).bind fun t173 => ((fix_Of.f (wrap64 (a1))).bind fun t174 => ((fix_Cmp.f t173 t174).bind fun t175 => ((carousellaw1_cmp.f (wrap64 (a0)) (wrap64 (a1))).bind fun t176 => (some (t175 == t176)))))) else ((fix_Of.f (wrap64 ((wrap64 (a0)) * (wrap64 (a1))))).bind fun t177 => ((fix_Of.f (wrap64 (a1))).bind fun t178 => ((fix_Div.f k t177 t178).bind fun t179 => ((fix_Of.f (wrap64 (a0))).bind fun t180 => (if t179 = t180 then ((fix_Of.f (wrap64 (a0))).bind fun t181 => ((fix_Of.f (wrap64 (a1))).bind fun t182 => ((fix_Cmp.f t181 t182).bind fun t183 => ((carousellaw1_cmp.f (wrap64 (a0)) (wrap64 (a1))).bind fun t184 => (some (t183 == t184)))))) else (none))))))) else (none)))))) else (none)))))) else (none)))))) else (none))) = some r := h
 clear h
 replace H := Option.bind_eq_some_iff.mp H
 obtain ⟨t160, A30, H⟩ := H
 (try dsimp only at H)
 have A3 := Aside0.mk A30
 clear A30
 by_cases c4 : t160 = true
 ·subst c4
  have H1 := H
  rw [if_pos rfl] at H1
  clear H
  have H := H1
  clear H1
  replace H := Option.bind_eq_some_iff.mp H
  obtain ⟨t161, A50, H⟩ := H
  (try dsimp only at H)
  have A5 := Aside0.mk A50
  clear A50
  replace H := Option.bind_eq_some_iff.mp H
  obtain ⟨t162, A60, H⟩ := H
  (try dsimp only at H)
  have A6 := Aside0.mk A60
  clear A60
  replace H := Option.bind_eq_some_iff.mp H
  obtain ⟨t163, A70, H⟩ := H
  (try dsimp only at H)
  have A7 := Aside0.mk A70
  clear A70
  replace H := Option.bind_eq_some_iff.mp H
  obtain ⟨t164, A80, H⟩ := H
  (try dsimp only at H)
  have A8 := Aside0.mk A80
  clear A80
  by_cases c9 : t163 = t164
  ·rw [if_pos c9] at H
   have c9b0 : (t163 == t164) = true := beq_iff_eq.mpr c9
   have c9b1 : (t163 != t164) = false := bne_eq_false_iff_eq.mpr c9
   clear c9
   replace H := Option.bind_eq_some_iff.mp H
   obtain ⟨t165, A100, H⟩ := H
   (try dsimp only at H)
   have A10 := Aside0.mk A100
   clear A100
   replace H := Option.bind_eq_some_iff.mp H
   obtain ⟨t166, A110, H⟩ := H
   (try dsimp only at H)
   have A11 := Aside0.mk A110
   clear A110
   replace H := Option.bind_eq_some_iff.mp H
   obtain ⟨t167, A120, H⟩ := H
   (try dsimp only at H)
   have A12 := Aside0.mk A120
   clear A120
   replace H := Option.bind_eq_some_iff.mp H
   obtain ⟨t168, A130, H⟩ := H
   (try dsimp only at H)
   have A13 := Aside0.mk A130
   clear A130
   by_cases c14 : t167 = t168
   ·rw [if_pos c14] at H
    have c14b0 : (t167 == t168) = true := beq_iff_eq.mpr c14
    have c14b1 : (t167 != t168) = false := bne_eq_false_iff_eq.mpr c14
    clear c14
    replace H := Option.bind_eq_some_iff.mp H
    obtain ⟨t169, A150, H⟩ := H
    (try dsimp only at H)
    have A15 := Aside0.mk A150
    clear A150
    replace H := Option.bind_eq_some_iff.mp H
    obtain ⟨t170, A160, H⟩ := H
    (try dsimp only at H)
    have A16 := Aside0.mk A160
    clear A160
    replace H := Option.bind_eq_some_iff.mp H
    obtain ⟨t171, A170, H⟩ := H
    (try dsimp only at H)
    have A17 := Aside0.mk A170
    clear A170
    replace H := Option.bind_eq_some_iff.mp H
    obtain ⟨t172, A180, H⟩ := H
    (try dsimp only at H)
    have A18 := Aside0.mk A180
    clear A180
    by_cases c19 : t171 = t172
    ·rw [if_pos c19] at H
     have c19b0 : (t171 == t172) = true := beq_iff_eq.mpr c19
     have c19b1 : (t171 != t172) = false := bne_eq_false_iff_eq.mpr c19
     clear c19
     by_cases c20 : (wrap64 (a1)) = 0
     ·rw [if_pos c20] at H
      have c20b0 : ((wrap64 (a1)) == 0) = true := beq_iff_eq.mpr c20
      have c20b1 : ((wrap64 (a1)) != 0) = false := bne_eq_false_iff_eq.mpr c20
      clear c20
      replace H := Option.bind_eq_some_iff.mp H
      obtain ⟨t173, A210, H⟩ := H
      (try dsimp only at H)
      have A21 := Aside0.mk A210
      clear A210
      replace H := Option.bind_eq_some_iff.mp H
      obtain ⟨t174, A220, H⟩ := H
      (try dsimp only at H)
      have A22 := Aside0.mk A220
      clear A220
      replace H := Option.bind_eq_some_iff.mp H
      obtain ⟨t175, A230, H⟩ := H
      replace H : ((carousellaw1_cmp.f (wrap64 (a0)) (wrap64 (a1))).bind fun t176 => (some (t175 == t176))) = some r := H
      have A23 := Aside0.mk A230
      clear A230
      replace H := Option.bind_eq_some_iff.mp H
      obtain ⟨t176, A240, H⟩ := H
      replace H : (some (t175 == t176)) = some r := H
      have A24 := Aside0.mk A240
      clear A240
      obtain rfl := Option.some.inj H
      go_enter Tryd.func9, Tryd.ntmps9
      go_wp2_with (first | ((with_reducible refine gate_callee (f := 11) rfl ?_); refine zg_ (some 7) Tryd.func11 #[] (h := ?_); (with_reducible refine (carousellaw1_awake.calls k  true _ A3.out).mono ?_); rintro e w25 ⟨rfl, hb⟩; refine ⟨_, rfl, ?_⟩; replace HB := Aside0.mk (below_step (zw0_ HB) hb); (try clear hb)) | ((with_reducible refine gate_callee (f := 12) rfl ?_); refine zg_ (some 14) Tryd.func12 #[.int .i64 (wrap64 (a0))] (h := ?_); (with_reducible refine (fix_Of.calls (wrap64 (a0)) t161 _ A5.out).mono ?_); clear A5; rintro e w' ⟨rfl, ⟨nd, rfl⟩⟩; refine ⟨_, rfl, ?_⟩) | ((with_reducible refine gate_callee (f := 12) rfl ?_); refine zg_ (some 16) Tryd.func12 #[.int .i64 (wrap64 (a1))] (h := ?_); (with_reducible refine (fix_Of.calls (wrap64 (a1)) t162 _ A6.out).mono ?_); clear A6; rintro e w' ⟨rfl, ⟨nd, rfl⟩⟩; refine ⟨_, rfl, ?_⟩) | ((with_reducible refine gate_callee (f := 17) rfl ?_); refine zg_ (some 17) Tryd.func17 #[.int .i64 t161, .int .i64 t162] (h := ?_); (with_reducible refine (fix_Add.calls k t161 t162 t163 _ A7.out).mono ?_); rintro e w' ⟨rfl, ⟨nd, rfl⟩⟩; refine ⟨_, rfl, ?_⟩) | ((with_reducible refine gate_callee (f := 12) rfl ?_); refine zg_ (some 21) Tryd.func12 #[.int .i64 (wrap64 ((wrap64 (a0)) + (wrap64 (a1))))] (h := ?_); (with_reducible refine (fix_Of.calls (wrap64 ((wrap64 (a0)) + (wrap64 (a1)))) t164 _ A8.out).mono ?_); rintro e w' ⟨rfl, ⟨nd, rfl⟩⟩; refine ⟨_, rfl, ?_⟩) | (go_at_call 12; (with_reducible refine (fix_Of.calls (wrap64 (a0)) t165 _ A10.out).mono ?_); clear A10; rintro e w' ⟨rfl, ⟨nd, rfl⟩⟩) | (go_at_call 12; (with_reducible refine (fix_Of.calls (wrap64 (a1)) t166 _ A11.out).mono ?_); clear A11; rintro e w' ⟨rfl, ⟨nd, rfl⟩⟩) | (go_at_call 18; (with_reducible refine (fix_Sub.calls k t165 t166 t167 _ A12.out).mono ?_); rintro e w' ⟨rfl, ⟨nd, rfl⟩⟩) | (go_at_call 12; (with_reducible refine (fix_Of.calls (wrap64 ((wrap64 (a0)) - (wrap64 (a1)))) t168 _ A13.out).mono ?_); rintro e w' ⟨rfl, ⟨nd, rfl⟩⟩) | (go_at_call 12; (with_reducible refine (fix_Of.calls (wrap64 (a0)) t169 _ A15.out).mono ?_); clear A15; rintro e w' ⟨rfl, ⟨nd, rfl⟩⟩) | (go_at_call 12; (with_reducible refine (fix_Of.calls (wrap64 (a1)) t170 _ A16.out).mono ?_); clear A16; rintro e w' ⟨rfl, ⟨nd, rfl⟩⟩) | (go_at_call 16; (with_reducible refine (fix_Mul.calls k t169 t170 t171 _ A17.out).mono ?_); rintro e w' ⟨rfl, ⟨nd, rfl⟩⟩) | (go_at_call 12; (with_reducible refine (fix_Of.calls (wrap64 ((wrap64 (a0)) * (wrap64 (a1)))) t172 _ A18.out).mono ?_); rintro e w' ⟨rfl, ⟨nd, rfl⟩⟩) | (go_at_call 12; (with_reducible refine (fix_Of.calls (wrap64 (a0)) t173 _ A21.out).mono ?_); clear A21; rintro e w' ⟨rfl, ⟨nd, rfl⟩⟩) | (go_at_call 12; (with_reducible refine (fix_Of.calls (wrap64 (a1)) t174 _ A22.out).mono ?_); clear A22; rintro e w' ⟨rfl, ⟨nd, rfl⟩⟩) | (go_at_call 21; (with_reducible refine (fix_Cmp.calls t173 t174 t175 _ A23.out).mono ?_); rintro e w' ⟨rfl, ⟨nd, rfl⟩⟩) | (go_at_call 22; (with_reducible refine (carousellaw1_cmp.calls (wrap64 (a0)) (wrap64 (a1)) t176 _ A24.out).mono ?_); rintro e w' ⟨rfl, ⟨nd, rfl⟩⟩))
      go_ret
      exact ⟨by first | rfl | (simp [errW_none, errW_some] <;> rfl) | (simp [*, errW_none, errW_some] <;> rfl), zw0_ HB⟩
     ·rw [if_neg c20] at H
      have c20b0 : ((wrap64 (a1)) == 0) = false := beq_eq_false_iff_ne.mpr c20
      have c20b1 : ((wrap64 (a1)) != 0) = true := bne_iff_ne.mpr c20
      replace H := Option.bind_eq_some_iff.mp H
      obtain ⟨t177, A260, H⟩ := H
      (try dsimp only at H)
      have A26 := Aside0.mk A260
      clear A260
      replace H := Option.bind_eq_some_iff.mp H
      obtain ⟨t178, A270, H⟩ := H
      (try dsimp only at H)
      have A27 := Aside0.mk A270
      clear A270
      replace H := Option.bind_eq_some_iff.mp H
      obtain ⟨t179, A280, H⟩ := H
      (try dsimp only at H)
      have A28 := Aside0.mk A280
      clear A280
      replace H := Option.bind_eq_some_iff.mp H
      obtain ⟨t180, A290, H⟩ := H
      (try dsimp only at H)
      have A29 := Aside0.mk A290
      clear A290
      by_cases c30 : t179 = t180
      ·rw [if_pos c30] at H
       have c30b0 : (t179 == t180) = true := beq_iff_eq.mpr c30
       have c30b1 : (t179 != t180) = false := bne_eq_false_iff_eq.mpr c30
       clear c30
       replace H := Option.bind_eq_some_iff.mp H
       obtain ⟨t181, A310, H⟩ := H
       (try dsimp only at H)
       have A31 := Aside0.mk A310
       clear A310
       replace H := Option.bind_eq_some_iff.mp H
       obtain ⟨t182, A320, H⟩ := H
       (try dsimp only at H)
       have A32 := Aside0.mk A320
       clear A320
       replace H := Option.bind_eq_some_iff.mp H
       obtain ⟨t183, A330, H⟩ := H
       replace H : ((carousellaw1_cmp.f (wrap64 (a0)) (wrap64 (a1))).bind fun t184 => (some (t183 == t184))) = some r := H
       have A33 := Aside0.mk A330
       clear A330
       replace H := Option.bind_eq_some_iff.mp H
       obtain ⟨t184, A340, H⟩ := H
       replace H : (some (t183 == t184)) = some r := H
       have A34 := Aside0.mk A340
       clear A340
       obtain rfl := Option.some.inj H
       go_enter Tryd.func9, Tryd.ntmps9
       go_wp2_with (first | ((with_reducible refine gate_callee (f := 11) rfl ?_); refine zg_ (some 7) Tryd.func11 #[] (h := ?_); (with_reducible refine (carousellaw1_awake.calls k  true _ A3.out).mono ?_); rintro e w35 ⟨rfl, hb⟩; refine ⟨_, rfl, ?_⟩; replace HB := Aside0.mk (below_step (zw0_ HB) hb); (try clear hb)) | ((with_reducible refine gate_callee (f := 12) rfl ?_); refine zg_ (some 14) Tryd.func12 #[.int .i64 (wrap64 (a0))] (h := ?_); (with_reducible refine (fix_Of.calls (wrap64 (a0)) t161 _ A5.out).mono ?_); clear A5; rintro e w' ⟨rfl, ⟨nd, rfl⟩⟩; refine ⟨_, rfl, ?_⟩) | ((with_reducible refine gate_callee (f := 12) rfl ?_); refine zg_ (some 16) Tryd.func12 #[.int .i64 (wrap64 (a1))] (h := ?_); (with_reducible refine (fix_Of.calls (wrap64 (a1)) t162 _ A6.out).mono ?_); clear A6; rintro e w' ⟨rfl, ⟨nd, rfl⟩⟩; refine ⟨_, rfl, ?_⟩) | ((with_reducible refine gate_callee (f := 17) rfl ?_); refine zg_ (some 17) Tryd.func17 #[.int .i64 t161, .int .i64 t162] (h := ?_); (with_reducible refine (fix_Add.calls k t161 t162 t163 _ A7.out).mono ?_); rintro e w' ⟨rfl, ⟨nd, rfl⟩⟩; refine ⟨_, rfl, ?_⟩) | ((with_reducible refine gate_callee (f := 12) rfl ?_); refine zg_ (some 21) Tryd.func12 #[.int .i64 (wrap64 ((wrap64 (a0)) + (wrap64 (a1))))] (h := ?_); (with_reducible refine (fix_Of.calls (wrap64 ((wrap64 (a0)) + (wrap64 (a1)))) t164 _ A8.out).mono ?_); rintro e w' ⟨rfl, ⟨nd, rfl⟩⟩; refine ⟨_, rfl, ?_⟩) | (go_at_call 12; (with_reducible refine (fix_Of.calls (wrap64 (a0)) t165 _ A10.out).mono ?_); clear A10; rintro e w' ⟨rfl, ⟨nd, rfl⟩⟩) | (go_at_call 12; (with_reducible refine (fix_Of.calls (wrap64 (a1)) t166 _ A11.out).mono ?_); clear A11; rintro e w' ⟨rfl, ⟨nd, rfl⟩⟩) | (go_at_call 18; (with_reducible refine (fix_Sub.calls k t165 t166 t167 _ A12.out).mono ?_); rintro e w' ⟨rfl, ⟨nd, rfl⟩⟩) | (go_at_call 12; (with_reducible refine (fix_Of.calls (wrap64 ((wrap64 (a0)) - (wrap64 (a1)))) t168 _ A13.out).mono ?_); rintro e w' ⟨rfl, ⟨nd, rfl⟩⟩) | (go_at_call 12; (with_reducible refine (fix_Of.calls (wrap64 (a0)) t169 _ A15.out).mono ?_); clear A15; rintro e w' ⟨rfl, ⟨nd, rfl⟩⟩) | (go_at_call 12; (with_reducible refine (fix_Of.calls (wrap64 (a1)) t170 _ A16.out).mono ?_); clear A16; rintro e w' ⟨rfl, ⟨nd, rfl⟩⟩) | (go_at_call 16; (with_reducible refine (fix_Mul.calls k t169 t170 t171 _ A17.out).mono ?_); rintro e w' ⟨rfl, ⟨nd, rfl⟩⟩) | (go_at_call 12; (with_reducible refine (fix_Of.calls (wrap64 ((wrap64 (a0)) * (wrap64 (a1)))) t172 _ A18.out).mono ?_); clear A18; rintro e w' ⟨rfl, ⟨nd, rfl⟩⟩) | (go_at_call 12; (with_reducible refine (fix_Of.calls (wrap64 ((wrap64 (a0)) * (wrap64 (a1)))) t177 _ A26.out).mono ?_); clear A26; rintro e w' ⟨rfl, ⟨nd, rfl⟩⟩) | (go_at_call 12; (with_reducible refine (fix_Of.calls (wrap64 (a1)) t178 _ A27.out).mono ?_); clear A27; rintro e w' ⟨rfl, ⟨nd, rfl⟩⟩) | (go_at_call 19; (with_reducible refine (fix_Div.calls k t177 t178 t179 _ A28.out).mono ?_); rintro e w' ⟨rfl, ⟨nd, rfl⟩⟩) | (go_at_call 12; (with_reducible refine (fix_Of.calls (wrap64 (a0)) t180 _ A29.out).mono ?_); clear A29; rintro e w' ⟨rfl, ⟨nd, rfl⟩⟩) | (go_at_call 12; (with_reducible refine (fix_Of.calls (wrap64 (a0)) t181 _ A31.out).mono ?_); clear A31; rintro e w' ⟨rfl, ⟨nd, rfl⟩⟩) | (go_at_call 12; (with_reducible refine (fix_Of.calls (wrap64 (a1)) t182 _ A32.out).mono ?_); clear A32; rintro e w' ⟨rfl, ⟨nd, rfl⟩⟩) | (go_at_call 21; (with_reducible refine (fix_Cmp.calls t181 t182 t183 _ A33.out).mono ?_); rintro e w' ⟨rfl, ⟨nd, rfl⟩⟩) | (go_at_call 22; (with_reducible refine (carousellaw1_cmp.calls (wrap64 (a0)) (wrap64 (a1)) t184 _ A34.out).mono ?_); rintro e w' ⟨rfl, ⟨nd, rfl⟩⟩))
       go_ret
       exact ⟨by first | rfl | (simp [errW_none, errW_some] <;> rfl) | (simp [*, errW_none, errW_some] <;> rfl), zw0_ HB⟩
      ·rw [if_neg c30] at H
       exact absurd H (by simp)
    ·rw [if_neg c19] at H
     exact absurd H (by simp)
   ·rw [if_neg c14] at H
    exact absurd H (by simp)
  ·rw [if_neg c9] at H
   exact absurd H (by simp)
 ·replace c4 := Bool.eq_false_iff.mpr c4
  subst c4
  have H1 : (none) = some r := by rw [if_neg (show ¬ (false = true) by decide)] at H; exact H
  clear H
  have H := H1
  clear H1
  exact absurd H (by simp)

/-- THE ONE PURE STATEMENT of carousellaw1_FixWhole: yours. -/
def carousellaw1_FixWhole.Pure : Prop := ∀ (a0 : Int) (a1 : Int), (Lit.int .i16 a0).wf = true → (Lit.int .i16 a1).wf = true → ∃ k, carousellaw1_FixWhole.f k a0 a1 = some true
theorem carousellaw1_FixWhole.walk (P : carousellaw1_FixWhole.Pure) (a0 : Int) (a1 : Int) (w : World) (w0 : (Lit.int .i16 a0).wf = true) (w1 : (Lit.int .i16 a1).wf = true) :
  Calls Tryd.prog 9 #[.int .i16 a0, .int .i16 a1] w fun e w' => e = .returned (.bool true) ∧ Below w.heap.size w w' := by
 obtain ⟨k, h⟩ := P a0 a1 w0 w1
 refine (carousellaw1_FixWhole.calls k a0 a1 true w h).mono ?_
 rintro e w' ⟨rfl, hd⟩
 exact ⟨rfl, hd⟩

end Go.Proofs.YtjiloachlemlcaaDoor.PFixWhole
