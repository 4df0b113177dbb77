/- The functions that the law TensTurns reaches, as Lean functions, and that each call of the Go function does what its Lean function says, wherever that one answers. Written by a program of mine over the print of the kit; Lean checks it. -/
import Derived.Test.YtbdhabpplidgfaaPTensTurnsx0
namespace Go.Proofs.Ytbdhabpplidgfaa.PTensTurns
open Go.RowKit Go.Proofs.YtbdhabpplidgfaaW.PrintWords Go.Proofs.YtbdhabpplidgfaaW.PrintLast Go.Proofs.YtbdhabpplidgfaaW.PrintMore
attribute [local go_sem] max2_int min2_int max_two min_two max_three min_three max_four min_four   -- for this text's walks alone
set_option linter.unusedVariables false
set_option linter.unusedSimpArgs false

/-! ### carouselref5_Good: function 13 -/
mutual
def carouselref5_Good.l0 : Nat → List Int → Int → Int → Option (Bool)
 | 0, _, _, _ => none
 | k + 1, x0, x3, x4 => if x4 < (x0.length : Int) then (if 0 ≤ x4 then (if (rd x0 x4) < 1 then (carouselref5_Good.j1 k x0 x3 x4 true) else (carouselref5_Good.j1 k x0 x3 x4 (decide ((rd x0 x4) > 4096)))) else (none)) else (some true)
def carouselref5_Good.j1 : Nat → List Int → Int → Int → Bool → Option (Bool)
 | 0, _, _, _, _ => none
 | k + 1, x0, x3, x4, x25 => if x25 = true then (some false) else (if 0 ≤ x4 then (if x4 < (x0.length : Int) then (if (wrap64 (x3 * (rd x0 x4))) > 4096 then (some false) else (carouselref5_Good.l0 k x0 (wrap64 (x3 * (rd x0 x4))) (wrap64 (x4 + 1)))) else (none)) else (none))
end
def carouselref5_Good.f (k : Nat) (l0 : List Int) : Option (Bool) := if (l0.length : Int) > 4 then (some false) else (carouselref5_Good.l0 k l0 1 0)
theorem carouselref5_Good.mono_l : ∀ k, (∀ y0 y1 y2, LeO (carouselref5_Good.l0 k y0 y1 y2) (carouselref5_Good.l0 (k + 1) y0 y1 y2)) ∧ (∀ y0 y1 y2 y3, LeO (carouselref5_Good.j1 k y0 y1 y2 y3) (carouselref5_Good.j1 (k + 1) y0 y1 y2 y3))
 | 0 => ⟨fun _ _ _ r h => by simp [carouselref5_Good.l0] at h, fun _ _ _ _ r h => by simp [carouselref5_Good.j1] at h⟩
 | k + 1 => by
  obtain ⟨ih0, ih1⟩ := carouselref5_Good.mono_l k
  refine ⟨?_, ?_⟩
  ·intro y0 y1 y2
   unfold carouselref5_Good.l0
   repeat' first
   | (with_reducible exact ih0 _ _ _)
   | (with_reducible exact ih1 _ _ _ _)
   | (with_reducible exact LeO.refl _)
   | (with_reducible exact LeO.none _)
   | (with_reducible refine LeO.ite ?_ ?_)
   | (with_reducible refine LeO.bind ?_ (fun _ => ?_))
   | exact ih0 _ _ _
   | exact ih1 _ _ _ _
   | exact LeO.none _
   | refine LeO.ite ?_ ?_
   | refine LeO.bind ?_ (fun _ => ?_)
  ·intro y0 y1 y2 y3
   unfold carouselref5_Good.j1
   repeat' first
   | (with_reducible exact ih0 _ _ _)
   | (with_reducible exact ih1 _ _ _ _)
   | (with_reducible exact LeO.refl _)
   | (with_reducible exact LeO.none _)
   | (with_reducible refine LeO.ite ?_ ?_)
   | (with_reducible refine LeO.bind ?_ (fun _ => ?_))
   | exact ih0 _ _ _
   | exact ih1 _ _ _ _
   | exact LeO.none _
   | refine LeO.ite ?_ ?_
   | refine LeO.bind ?_ (fun _ => ?_)
theorem carouselref5_Good.mono : ∀ a0 k, LeO (carouselref5_Good.f k a0) (carouselref5_Good.f (k + 1) a0) := by
 intro a0 k
 obtain ⟨ih0, ih1⟩ := carouselref5_Good.mono_l k
 unfold carouselref5_Good.f
 repeat' first
   | (with_reducible exact ih0 _ _ _)
   | (with_reducible exact ih1 _ _ _ _)
   | (with_reducible exact LeO.refl _)
   | (with_reducible exact LeO.none _)
   | (with_reducible refine LeO.ite ?_ ?_)
   | (with_reducible refine LeO.bind ?_ (fun _ => ?_))
   | exact ih0 _ _ _
   | exact ih1 _ _ _ _
   | exact LeO.none _
   | refine LeO.ite ?_ ?_
   | refine LeO.bind ?_ (fun _ => ?_)
set_option maxHeartbeats 8000000 in
set_option maxRecDepth 100000 in
theorem carouselref5_Good.calls (k : Nat) (A0 : Option Addr) (c0 : Nat) (l0 : List Int) (r : Bool) (w : World) (hr0 : Kd.C (Kd.int .i64) w A0 l0.length l0) (hc0 : l0.length ≤ c0) (h : carouselref5_Good.f k l0 = some r) :
  Calls Try.prog 13 #[.slice A0 l0.length c0] w fun e w' => e = .returned (.bool r) ∧ Drawn0 w w' := by
 have HR0 := Aside0.mk hr0
 have HC0 := Aside0.mk hc0
 clear hr0 hc0
 have H : (if (l0.length : Int) > 4 then (some false) else (carouselref5_Good.l0 k l0 1 0)) = some r := h
 clear h
 by_cases c2 : (l0.length : Int) > 4
 ·rw [if_pos c2] at H
  have c2b0 : decide (4 < (l0.length : Int)) = true := decide_eq_true c2
  have c2b1 : decide (4 < l0.length) = true := decide_eq_true (by omega)
  clear c2
  obtain rfl := Option.some.inj H
  go_enter Try.func13, Try.ntmps13
  go_wp2
  go_ret
  exact ⟨by first | rfl | (simp; done) | (simp [*]; done), by repeat (first | exact Drawn0.refl _ | apply Drawn0.step)⟩
 rw [if_neg c2] at H
 have c2b0 : decide (4 < (l0.length : Int)) = false := decide_eq_false c2
 have c2b1 : decide (4 < l0.length) = false := decide_eq_false (by omega)
 clear c2
 have H' := Aside0.mk H
 clear H
 go_enter Try.func13, Try.ntmps13
 go_wp2
 go_loopg [3, 4] k (fun kq v3 v4 w' => ∃ (x3_1 : Int) (x4_1 : Int), v3 = .int .i64 x3_1 ∧ v4 = .int .i64 x4_1 ∧ Aside0 (carouselref5_Good.l0 kq l0 x3_1 x4_1 = some r) ∧ Aside0 (kq ≤ k) ∧ Drawn0 w w')
 case atStart => exact ⟨(1), (0), z1_, z1_, H', ⟨Nat.le_refl _⟩, by repeat (first | exact Drawn0.refl _ | apply Drawn0.step)⟩
 case round =>
  clear H'
  try clear c1
  try clear c2
  try clear c2b0
  try clear c2b1
  try clear p2
  obtain ⟨x3_1, x4_1, rfl, rfl, HA, HK1, ⟨m1, rfl⟩⟩ := hrel
  cases gk with
  | zero => exact absurd HA.out (by simp [carouselref5_Good.l0])
  | succ k1 =>
   have H := HA.out
   clear HA
   simp only [carouselref5_Good.l0] at H
   by_cases c3 : x4_1 < (l0.length : Int)
   rotate_left
   ·rw [if_neg c3] at H
    have c3b0 : decide (x4_1 < (l0.length : Int)) = false := decide_eq_false c3
    clear c3
    obtain rfl := Option.some.inj H
    go_wp2
    go_ret
    exact ⟨by first | rfl | (simp; done) | (simp [*]; done), by repeat (first | exact Drawn0.refl _ | apply Drawn0.step)⟩
   rw [if_pos c3] at H
   have c3b0 : decide (x4_1 < (l0.length : Int)) = true := decide_eq_true c3
   clear c3
   have HC4 := Aside0.mk H
   clear H
   go_upto_region 7 with (fail)
   go_cut [25] (fun v25 wc => ∃ (kq : Nat) (x25_3 : Bool), v25 = .bool x25_3 ∧ Aside0 (carouselref5_Good.j1 kq l0 x3_1 x4_1 x25_3 = some r) ∧ Aside0 (kq ≤ k1) ∧ Drawn0 w wc)
   case first =>
    have H := HC4.out
    clear HC4
    by_cases c5 : 0 ≤ x4_1
    rotate_left
    ·rw [if_neg c5] at H
     exact absurd H (by simp)
    rw [if_pos c5] at H
    have c5b0 : decide (0 ≤ x4_1) = true := decide_eq_true c5
    clear c5
    (first | rw [c5b0] | (simp only [i64_w, i32_w]; rw [c5b0]) | skip)
    by_cases c6 : (rd l0 x4_1) < 1
    ·rw [if_pos c6] at H
     have c6b0 : decide ((rd l0 x4_1) < 1) = true := decide_eq_true c6
     clear c6
     have H' := Aside0.mk H
     clear H
     have p319 : 0 ≤ (x4_1 : Int) := of_decide_eq_true (by first | (with_reducible assumption) | assumption)
     have q319 : x4_1 < (l0.length : Int) := of_decide_eq_true (by first | (with_reducible assumption) | assumption)
     obtain ⟨ad319, e319, hx319_0⟩ := Kd.at_int HR0.out x4_1 p319 q319
     cases e319
     replace p319 := eq_true p319
     replace q319 := eq_true q319
     go_wp2
     go_meet
     case rel => exact ⟨_, (true), z1_, H', ⟨by have := HK1.out; first | omega | exact Nat.le_refl _⟩, by repeat (first | exact Drawn0.refl _ | apply Drawn0.step)⟩
    rw [if_neg c6] at H
    have c6b0 : decide ((rd l0 x4_1) < 1) = false := decide_eq_false c6
    clear c6
    have H' := Aside0.mk H
    clear H
    have p319 : 0 ≤ (x4_1 : Int) := of_decide_eq_true (by first | (with_reducible assumption) | assumption)
    have q319 : x4_1 < (l0.length : Int) := of_decide_eq_true (by first | (with_reducible assumption) | assumption)
    obtain ⟨ad319, e319, hx319_0⟩ := Kd.at_int HR0.out x4_1 p319 q319
    cases e319
    replace p319 := eq_true p319
    replace q319 := eq_true q319
    have p320 : 0 ≤ (x4_1 : Int) := of_decide_eq_true (by first | (with_reducible assumption) | assumption)
    have q320 : x4_1 < (l0.length : Int) := of_decide_eq_true (by first | (with_reducible assumption) | assumption)
    obtain ⟨ad320, e320, hx320_0⟩ := Kd.at_int HR0.out x4_1 p320 q320
    obtain rfl : ad319 = ad320 := (by injection e320)
    replace p320 := eq_true p320
    replace q320 := eq_true q320
    go_wp2
    go_meet
    case rel => exact ⟨_, (decide ((rd l0 x4_1) > 4096)), z1_, H', ⟨by have := HK1.out; first | omega | exact Nat.le_refl _⟩, by repeat (first | exact Drawn0.refl _ | apply Drawn0.step)⟩
   case rest =>
    clear HC4
    try clear c1
    try clear c2
    try clear c2b0
    try clear c2b1
    try clear p2
    try clear c3
    try clear c3b0
    try clear p3
    try clear q3
    try clear hx3
    try clear c5
    try clear c5b0
    try clear c6
    try clear c6b0
    try clear hx319_0
    try clear hx320_0
    try clear p2
    try clear p319
    try clear p320
    try clear q319
    try clear q320
    obtain ⟨kq, x25_3, rfl, HA, HJ3, ⟨mc3, rfl⟩⟩ := hcut
    cases kq with
    | zero => exact absurd HA.out (by simp [carouselref5_Good.j1])
    | succ kj3 =>
     have H := HA.out
     clear HA
     simp only [carouselref5_Good.j1] at H
     by_cases c7 : x25_3 = true
     ·subst c7
      have H1 : (some false) = some r := by rw [if_pos rfl] at H; exact H
      clear H
      have H := H1
      clear H1
      obtain rfl := Option.some.inj H
      go_wp2
      go_ret
      exact ⟨by first | rfl | (simp; done) | (simp [*]; done), by repeat (first | exact Drawn0.refl _ | apply Drawn0.step)⟩
     replace c7 := Bool.eq_false_iff.mpr c7
     subst c7
     have H1 := H
     rw [if_neg (show ¬ (false = true) by decide)] at H1
     clear H
     have H := H1
     clear H1
     by_cases c8 : 0 ≤ x4_1
     rotate_left
     ·rw [if_neg c8] at H
      exact absurd H (by simp)
     rw [if_pos c8] at H
     have c8b0 : decide (0 ≤ x4_1) = true := decide_eq_true c8
     clear c8
     by_cases c9 : x4_1 < (l0.length : Int)
     rotate_left
     ·rw [if_neg c9] at H
      exact absurd H (by simp)
     rw [if_pos c9] at H
     have c9b0 : decide (x4_1 < (l0.length : Int)) = true := decide_eq_true c9
     clear c9
     by_cases c10 : (wrap64 (x3_1 * (rd l0 x4_1))) > 4096
     ·rw [if_pos c10] at H
      have c10b0 : decide (4096 < (wrap64 (x3_1 * (rd l0 x4_1)))) = true := decide_eq_true c10
      clear c10
      obtain rfl := Option.some.inj H
      have p321 : 0 ≤ (x4_1 : Int) := of_decide_eq_true (by first | (with_reducible assumption) | assumption)
      have q321 : x4_1 < (l0.length : Int) := of_decide_eq_true (by first | (with_reducible assumption) | assumption)
      obtain ⟨ad321, e321, hx321_0⟩ := Kd.at_int HR0.out x4_1 p321 q321
      cases e321
      replace p321 := eq_true p321
      replace q321 := eq_true q321
      go_wp2
      go_ret
      exact ⟨by first | rfl | (simp; done) | (simp [*]; done), by repeat (first | exact Drawn0.refl _ | apply Drawn0.step)⟩
     rw [if_neg c10] at H
     have c10b0 : decide (4096 < (wrap64 (x3_1 * (rd l0 x4_1)))) = false := decide_eq_false c10
     clear c10
     have H' := Aside0.mk H
     clear H
     have p321 : 0 ≤ (x4_1 : Int) := of_decide_eq_true (by first | (with_reducible assumption) | assumption)
     have q321 : x4_1 < (l0.length : Int) := of_decide_eq_true (by first | (with_reducible assumption) | assumption)
     obtain ⟨ad321, e321, hx321_0⟩ := Kd.at_int HR0.out x4_1 p321 q321
     cases e321
     replace p321 := eq_true p321
     replace q321 := eq_true q321
     go_wp2
     go_roundg kj3
     case measure => have := HK1.out; have := HJ3.out; omega
     case rel => exact ⟨(wrap64 (x3_1 * (rd l0 x4_1))), (wrap64 (x4_1 + 1)), z1_, z1_, H', ⟨by have := HK1.out; have := HJ3.out; omega⟩, by repeat (first | exact Drawn0.refl _ | apply Drawn0.step)⟩

/-! ### carouselref5_Size: function 38 -/
def carouselref5_Size.l0 : Nat → List Int → Int → Int → Option (Int)
 | 0, _, _, _ => none
 | k + 1, x0, x3, x4 => if x4 < (x0.length : Int) then (if 0 ≤ x4 then (carouselref5_Size.l0 k x0 (wrap64 (x3 * (rd x0 x4))) (wrap64 (x4 + 1))) else (none)) else (some x3)
def carouselref5_Size.f (k : Nat) (l0 : List Int) : Option (Int) := (carouselref5_Good.f k l0).bind fun t322 => (if t322 = true then (carouselref5_Size.l0 k l0 1 0) else (some 0))
theorem carouselref5_Size.mono_l : ∀ k, (∀ y0 y1 y2, LeO (carouselref5_Size.l0 k y0 y1 y2) (carouselref5_Size.l0 (k + 1) y0 y1 y2))
 | 0 => fun _ _ _ r h => by simp [carouselref5_Size.l0] at h
 | k + 1 => by
  have ih0 := carouselref5_Size.mono_l k
  ·intro y0 y1 y2
   unfold carouselref5_Size.l0
   repeat' first
   | (with_reducible exact ih0 _ _ _)
   | (with_reducible exact LeO.refl _)
   | (with_reducible exact LeO.none _)
   | (with_reducible refine LeO.ite ?_ ?_)
   | (with_reducible refine LeO.bind ?_ (fun _ => ?_))
   | exact ih0 _ _ _
   | exact LeO.none _
   | refine LeO.ite ?_ ?_
   | refine LeO.bind ?_ (fun _ => ?_)
theorem carouselref5_Size.mono : ∀ a0 k, LeO (carouselref5_Size.f k a0) (carouselref5_Size.f (k + 1) a0) := by
 intro a0 k
 have ih0 := carouselref5_Size.mono_l k
 unfold carouselref5_Size.f
 repeat' first
   | (with_reducible exact ih0 _ _ _)
   | (with_reducible exact carouselref5_Good.mono _ _)
   | (with_reducible exact LeO.refl _)
   | (with_reducible exact LeO.none _)
   | (with_reducible refine LeO.ite ?_ ?_)
   | (with_reducible refine LeO.bind ?_ (fun _ => ?_))
   | exact ih0 _ _ _
   | exact carouselref5_Good.mono _ _
   | exact LeO.none _
   | refine LeO.ite ?_ ?_
   | refine LeO.bind ?_ (fun _ => ?_)
set_option maxHeartbeats 8000000 in
set_option maxRecDepth 100000 in
theorem carouselref5_Size.calls (k : Nat) (A0 : Option Addr) (c0 : Nat) (l0 : List Int) (r : Int) (w : World) (hr0 : Kd.C (Kd.int .i64) w A0 l0.length l0) (hc0 : l0.length ≤ c0) (h : carouselref5_Size.f k l0 = some r) :
  Calls Try.prog 38 #[.slice A0 l0.length c0] w fun e w' => e = .returned (.int .i64 r) ∧ Drawn0 w w' := by
 have HR0 := Aside0.mk hr0
 have HC0 := Aside0.mk hc0
 clear hr0 hc0
 have H : ((carouselref5_Good.f k l0).bind fun t322 => (if t322 = true then (carouselref5_Size.l0 k l0 1 0) else (some 0))) = some r := h
 clear h
 replace H := Option.bind_eq_some_iff.mp H
 obtain ⟨t322, A20, H⟩ := H
 replace H : (if t322 = true then (carouselref5_Size.l0 k l0 1 0) else (some 0)) = some r := H
 have A2 := Aside0.mk A20
 clear A20
 by_cases c3 : t322 = true
 rotate_left
 ·replace c3 := Bool.eq_false_iff.mpr c3
  subst c3
  have H1 : (some 0) = some r := by rw [if_neg (show ¬ (false = true) by decide)] at H; exact H
  clear H
  have H := H1
  clear H1
  obtain rfl := Option.some.inj H
  go_enter Try.func38, Try.ntmps38
  go_wp2_with (first | ((with_reducible refine gate_callee (f := 13) rfl ?_); refine zg_ (some 6) Try.func13 #[.slice A0 l0.length c0] (h := ?_); (with_reducible refine (carouselref5_Good.calls k _ _ l0 false _ ?side1 ?side2 A2.out).mono ?_); (case side1 => repeat (first | exact HR0.out | (with_reducible refine Kd.C_alloc ?_ _) | (with_reducible refine Kd.C_drewN ?_ _) | (with_reducible refine Kd.C_drew ?_))); (case side2 => exact HC0.out); rintro e w' ⟨rfl, ⟨nd, rfl⟩⟩; refine ⟨_, rfl, ?_⟩))
  go_ret
  exact ⟨by first | rfl | (simp; done) | (simp [*]; done), by repeat (first | exact Drawn0.refl _ | apply Drawn0.step)⟩
 subst c3
 have H1 : (carouselref5_Size.l0 k l0 1 0) = some r := by rw [if_pos rfl] at H; exact H
 clear H
 have H := H1
 clear H1
 have H' := Aside0.mk H
 clear H
 go_enter Try.func38, Try.ntmps38
 go_wp2_with (first | ((with_reducible refine gate_callee (f := 13) rfl ?_); refine zg_ (some 6) Try.func13 #[.slice A0 l0.length c0] (h := ?_); (with_reducible refine (carouselref5_Good.calls k _ _ l0 true _ ?side1 ?side2 A2.out).mono ?_); (case side1 => repeat (first | exact HR0.out | (with_reducible refine Kd.C_alloc ?_ _) | (with_reducible refine Kd.C_drewN ?_ _) | (with_reducible refine Kd.C_drew ?_))); (case side2 => exact HC0.out); rintro e w' ⟨rfl, ⟨nd, rfl⟩⟩; refine ⟨_, rfl, ?_⟩))
 go_loopg [3, 4] k (fun kq v3 v4 w' => ∃ (x3_1 : Int) (x4_1 : Int), v3 = .int .i64 x3_1 ∧ v4 = .int .i64 x4_1 ∧ Aside0 (carouselref5_Size.l0 kq l0 x3_1 x4_1 = some r) ∧ Aside0 (kq ≤ k) ∧ Drawn0 w w')
 case atStart => exact ⟨(1), (0), z1_, z1_, H', ⟨Nat.le_refl _⟩, by repeat (first | exact Drawn0.refl _ | apply Drawn0.step)⟩
 case round =>
  clear H'
  try clear c1
  try clear p2
  try clear c3
  obtain ⟨x3_1, x4_1, rfl, rfl, HA, HK1, ⟨m1, rfl⟩⟩ := hrel
  cases gk with
  | zero => exact absurd HA.out (by simp [carouselref5_Size.l0])
  | succ k1 =>
   have H := HA.out
   clear HA
   simp only [carouselref5_Size.l0] at H
   by_cases c4 : x4_1 < (l0.length : Int)
   rotate_left
   ·rw [if_neg c4] at H
    have c4b0 : decide (x4_1 < (l0.length : Int)) = false := decide_eq_false c4
    clear c4
    obtain rfl := Option.some.inj H
    go_wp2
    go_ret
    exact ⟨by first | rfl | (simp; done) | (simp [*]; done), by repeat (first | exact Drawn0.refl _ | apply Drawn0.step)⟩
   rw [if_pos c4] at H
   have c4b0 : decide (x4_1 < (l0.length : Int)) = true := decide_eq_true c4
   clear c4
   by_cases c5 : 0 ≤ x4_1
   rotate_left
   ·rw [if_neg c5] at H
    exact absurd H (by simp)
   rw [if_pos c5] at H
   have c5b0 : decide (0 ≤ x4_1) = true := decide_eq_true c5
   clear c5
   have H' := Aside0.mk H
   clear H
   have p323 : 0 ≤ (x4_1 : Int) := of_decide_eq_true (by first | (with_reducible assumption) | assumption)
   have q323 : x4_1 < (l0.length : Int) := of_decide_eq_true (by first | (with_reducible assumption) | assumption)
   obtain ⟨ad323, e323, hx323_0⟩ := Kd.at_int HR0.out x4_1 p323 q323
   cases e323
   replace p323 := eq_true p323
   replace q323 := eq_true q323
   go_wp2
   go_roundg k1
   case measure => have := HK1.out; omega
   case rel => exact ⟨(wrap64 (x3_1 * (rd l0 x4_1))), (wrap64 (x4_1 + 1)), z1_, z1_, H', ⟨by have := HK1.out; omega⟩, by repeat (first | exact Drawn0.refl _ | apply Drawn0.step)⟩

/-! ### carouselref5_New: function 15 -/
def carouselref5_New.l0 : Nat → Int → Int → List Int → List Int → Option (List Int × List Int)
 | 0, _, _, _, _ => none
 | k + 1, x1, x6, x336000, x336001 => if x6 < (x336001.length : Int) then (if 0 ≤ x6 then (carouselref5_New.l0 k x1 (wrap64 (x6 + 1)) x336000 (x336001.set (x6 : Int).toNat x1)) else (none)) else (some (x336000, x336001))
def carouselref5_New.f (k : Nat) (l0 : List Int) (a1 : Int) : Option (List Int × List Int) := (some (([] : List Int) : List Int)).bind fun y325 => (if y325.length + l0.length < 17592186044416 then ((carouselref5_Size.f k l0).bind fun t331 => (if 0 ≤ t331 then (if (t331 : Int).toNat ≤ 35184372088832 then (carouselref5_New.l0 k a1 0 (y325 ++ l0) (List.replicate (t331 : Int).toNat 0)) else (none)) else (none))) else (none))
theorem carouselref5_New.mono_l : ∀ k, (∀ y0 y1 y2 y3, LeO (carouselref5_New.l0 k y0 y1 y2 y3) (carouselref5_New.l0 (k + 1) y0 y1 y2 y3))
 | 0 => fun _ _ _ _ r h => by simp [carouselref5_New.l0] at h
 | k + 1 => by
  have ih0 := carouselref5_New.mono_l k
  ·intro y0 y1 y2 y3
   unfold carouselref5_New.l0
   repeat' first
   | (with_reducible exact ih0 _ _ _ _)
   | (with_reducible exact LeO.refl _)
   | (with_reducible exact LeO.none _)
   | (with_reducible refine LeO.ite ?_ ?_)
   | (with_reducible refine LeO.bind ?_ (fun _ => ?_))
   | exact ih0 _ _ _ _
   | exact LeO.none _
   | refine LeO.ite ?_ ?_
   | refine LeO.bind ?_ (fun _ => ?_)
theorem carouselref5_New.mono : ∀ a0 a1 k, LeO (carouselref5_New.f k a0 a1) (carouselref5_New.f (k + 1) a0 a1) := by
 intro a0 a1 k
 have ih0 := carouselref5_New.mono_l k
 unfold carouselref5_New.f
 repeat' first
   | (with_reducible exact ih0 _ _ _ _)
   | (with_reducible exact carouselref5_Size.mono _ _)
   | (with_reducible exact LeO.refl _)
   | (with_reducible exact LeO.none _)
   | (with_reducible refine LeO.ite ?_ ?_)
   | (with_reducible refine LeO.bind ?_ (fun _ => ?_))
   | exact ih0 _ _ _ _
   | exact carouselref5_Size.mono _ _
   | exact LeO.none _
   | refine LeO.ite ?_ ?_
   | refine LeO.bind ?_ (fun _ => ?_)
set_option maxHeartbeats 8000000 in
set_option maxRecDepth 100000 in
theorem carouselref5_New.calls (k : Nat) (A0 : Option Addr) (c0 : Nat) (l0 : List Int) (a1 : Int) (r1 : List Int) (r2 : List Int) (w : World) (hr0 : Kd.C (Kd.int .i64) w A0 l0.length l0) (hc0 : l0.length ≤ c0) (h : carouselref5_New.f k l0 a1 = some (r1, r2)) :
  Calls Try.prog 15 #[.slice A0 l0.length c0, .int .i64 a1] w fun e w' => ∃ v0_ v1_ : Value, e = .returned (.agg #[v0_, v1_]) ∧ Kd.R (Kd.int .i64) 3 w' w.heap.size (fun _ => True) v0_ r1 ∧ Kd.R (Kd.int .i64) 23 w' w.heap.size (fun _ => True) v1_ r2 ∧ Below w.heap.size w w' := by
 have hu27 := Try.underlying27
 have HR0 := Aside0.mk hr0
 have HC0 := Aside0.mk hc0
 clear hr0 hc0
 have HB := Aside0.mk (Below.refl w.heap.size w)
 have H : ((some (([] : List Int) : List Int)).bind fun y325 => (if y325.length + l0.length < 17592186044416 then ((carouselref5_Size.f k l0).bind fun t331 => (if 0 ≤ t331 then (if (t331 : Int).toNat ≤ 35184372088832 then (carouselref5_New.l0 k a1 0 (y325 ++ l0) (List.replicate (t331 : Int).toNat 0)) else (none)) else (none))) else (none))) = some (r1, r2) := h
 clear h
 obtain ⟨y325, hy325⟩ : ∃ y_ : List Int, y_ = (([] : List Int)) := ⟨_, rfl⟩
 replace H : (if y325.length + l0.length < 17592186044416 then ((carouselref5_Size.f k l0).bind fun t331 => (if 0 ≤ t331 then (if (t331 : Int).toNat ≤ 35184372088832 then (carouselref5_New.l0 k a1 0 (y325 ++ l0) (List.replicate (t331 : Int).toNat 0)) else (none)) else (none))) else (none)) = some (r1, r2) := by first | (rw [hy325]; with_reducible exact H) | (have H2_ := (Option.bind_some _ _).symm.trans H; rw [hy325]; with_reducible exact H2_) | (have H2_ := (Option.bind_some _ _).symm.trans H; with_reducible exact H2_) | with_reducible exact H | (rw [hy325]; exact H) | exact H
 have Ny325 := Aside0.mk hy325
 clear hy325
 by_cases c3 : y325.length + l0.length < 17592186044416
 rotate_left
 ·rw [if_neg c3] at H
  exact absurd H (by simp)
 rw [if_pos c3] at H
 have LMc3 := Aside0.mk c3
 clear c3
 obtain ⟨y328, hy328⟩ : ∃ y_ : List Int, y_ = (y325 ++ l0) := ⟨_, rfl⟩
 replace H : ((carouselref5_Size.f k l0).bind fun t331 => (if 0 ≤ t331 then (if (t331 : Int).toNat ≤ 35184372088832 then (carouselref5_New.l0 k a1 0 y328 (List.replicate (t331 : Int).toNat 0)) else (none)) else (none))) = some (r1, r2) := by first | (rw [hy328]; with_reducible exact H) | (have H2_ := (Option.bind_some _ _).symm.trans H; rw [hy328]; with_reducible exact H2_) | (have H2_ := (Option.bind_some _ _).symm.trans H; with_reducible exact H2_) | with_reducible exact H | (rw [hy328]; exact H) | exact H
 have Ny328 := Aside0.mk hy328
 clear hy328
 replace H := Option.bind_eq_some_iff.mp H
 obtain ⟨t331, A40, H⟩ := H
 (try dsimp only at H)
 have A4 := Aside0.mk A40
 clear A40
 by_cases c5 : 0 ≤ t331
 rotate_left
 ·rw [if_neg c5] at H
  exact absurd H (by simp)
 rw [if_pos c5] at H
 have c5b0 := eq_true c5
 have c5b1 : decide (0 ≤ t331) = true := decide_eq_true c5
 clear c5
 by_cases c6 : (t331 : Int).toNat ≤ 35184372088832
 rotate_left
 ·rw [if_neg c6] at H
  exact absurd H (by simp)
 rw [if_pos c6] at H
 have c6b0 := eq_true c6
 have c6b1 : decide ((t331 : Int).toNat ≤ 35184372088832) = true := decide_eq_true c6
 clear c6
 obtain ⟨y332, hy332⟩ : ∃ y_ : List Int, y_ = (List.replicate (t331 : Int).toNat 0) := ⟨_, rfl⟩
 replace H : (carouselref5_New.l0 k a1 0 y328 y332) = some (r1, r2) := by first | (rw [hy332]; with_reducible exact H) | (have H2_ := (Option.bind_some _ _).symm.trans H; rw [hy332]; with_reducible exact H2_) | (have H2_ := (Option.bind_some _ _).symm.trans H; with_reducible exact H2_) | with_reducible exact H | (rw [hy332]; exact H) | exact H
 have Ny332 := Aside0.mk hy332
 clear hy332
 have H' := Aside0.mk H
 clear H
 go_enter Try.func15, Try.ntmps15
 go_wp2_with (first | ((with_reducible refine gate_dst (N := 4) rfl ?_); refine box_event ?hg (N := 4) ?hd (cs := #[.slice none 0 0, .slice none 0 0]) (t := 27) ?hr ?_; (case hd => rfl); (case hg => rfl); (case hr => first | (go_simp; done) | (go_simp; rfl)); intro gb324 hg w7 hbox hb; have BK324 := Aside0.mk (hbox); have GW324 := Aside0.mk (zs_ hg (zw0_ HB)); have GE324 := Aside0.mk (zs_ hg (zw0_ HB)); replace HB := Aside0.mk (below_step (zw0_ HB) hb); clear hb hbox hg) | ((with_reducible refine gate_dst (N := 7) rfl ?_); refine Kd.R_lit (Kd.int .i64) _ 3 ?hg (N := 7) ?hd (xs := ([] : List Int)) (inner := []) (ok := fun _ => True) (okp := fun _ => True) ?hr ?hp (fun _ hk => hk) trivial (Below.refl _ _) (Nat.le_refl _) (by simp) ?_; (case hd => rfl); (case hg => rfl); (case hr => first | (go_simp; done) | (go_simp; rfl)); (case hp => exact (Reps.none _ _)); intro v326 w8 ho9 hb hg_ hnew_; clear hg_ hnew_; (first | rw [← Ny325.out] at ho9 | (simp only [Int.reduceToNat] at ho9; rw [← Ny325.out] at ho9)); have HO327 := Aside0.mk (Kd.R_lower ho9 (below_size (zw1_ HB GE324))); replace BK324 := za_ BK324 hb; replace HB := Aside0.mk (below_step (zw1_ HB GE324) hb); clear hb ho9) | ((with_reducible refine gate_builtin (b := .append) (xs := #[.tmp 7, .tmp 8]) rfl ?_); at_builtin; refine Kd.R_append_rows (Kd.int .i64) (w0 := w) w.heap.size rfl (.tmp 7) (.tmp 8) 22 3 (.int .i64 0) 8 rfl Try.underlying22 info3 rfl (by decide) (by omega) v326 y325 l0 _ _ _ (fun _ => True) (fun _ => False) rfl rfl ?aO ?aR (fun _ _ h => h) (fun _ h => h.elim) ?aF ?aB ?aS ?aL ?_; (case aR => exact zk_ (Kd.C_below HR0.out HB.out)); (case aB => exact (zw1_ HB GE324)); (case aF => exact (fun _ _ => trivial)); (case aO => exact (zr_ HO327.out)); (case aS => exact (below_size (zw1_ HB GE324))); (case aL => have := LMc3.out; omega); intro v329 w10 ho hb hg hat; rw [← Ny328.out] at ho; replace BK324 := Aside0.mk (zh_ BK324 hg (Kd.R_ne HO327.out BK324.out (by decide))); replace HB := Aside0.mk (hb); have HO330 := Aside0.mk (ho); clear HO327; clear ho hb hg hat) | ((with_reducible refine gate_callee (f := 38) rfl ?_); refine zg_ (some 11) Try.func38 #[.slice A0 l0.length c0] (h := ?_); (with_reducible refine (carouselref5_Size.calls k _ _ l0 t331 _ ?side1 ?side2 A4.out).mono ?_); (case side1 => exact zk_ (Kd.C_below HR0.out HB.out)); (case side2 => exact HC0.out); rintro e w' ⟨rfl, ⟨nd, rfl⟩⟩; refine ⟨_, rfl, ?_⟩; (try (rw [drewN_self w10]; generalize hq_ : World.drewN w10 _ = w10; have n0_ : Aside0 (Kd.R (Kd.int .i64) 3 w10 w.heap.size (fun _ => True) v329 y328) := ⟨by rw [← hq_]; exact (zr_ HO330.out)⟩; have n1_ : Aside0 (w10.heap[gb324]? = some (.cells #[.slice none 0 0, .slice none 0 0] 27 (0, 0))) := ⟨by rw [← hq_]; exact (zb_ BK324)⟩; have n2_ : Aside0 (Below w.heap.size w w10) := ⟨by rw [← hq_]; exact (zw1_ HB GE324)⟩; clear HO330 BK324 HB hq_; have HO330 := n0_; have BK324 := n1_; have HB := n2_; clear n0_ n1_ n2_))) | ((with_reducible refine gate_dst (N := 12) rfl ?_); refine Kd.R_make (Kd.int .i64) _ 23 rfl (N := 12) rfl 25 _ _ rfl t331 rfl rfl Try.underlying25 (.int .i64 0) 8 info23 rfl (by decide) (by omega) 0 (ok := fun _ => True) (okp := fun _ => True) rfl (fun _ hk => hk) trivial (of_decide_eq_true (by first | (with_reducible assumption) | assumption)) (Nat.le_trans (Nat.mul_le_mul_right _ (of_decide_eq_true (by first | (with_reducible assumption) | assumption) : t331.toNat ≤ 35184372088832)) (by omega)) (Below.refl _ _) (Nat.le_refl _) ?_; intro v333 w11 ho12 hb hg_ hnew_; clear hg_ hnew_; (first | rw [← Ny332.out] at ho12 | (simp only [Int.reduceToNat] at ho12; rw [← Ny332.out] at ho12)); replace HO330 := zy_ HO330 hb; have HO334 := Aside0.mk (Kd.R_lower ho12 (below_size (zw1_ HB GE324))); replace BK324 := za_ BK324 hb; replace HB := Aside0.mk (below_step (zw1_ HB GE324) hb); clear hb ho12; obtain ⟨Ao13, co13, eo13⟩ := Kd.R_slice HO334.out; subst eo13; obtain ⟨Ao14, co14, eo14⟩ := Kd.R_slice HO330.out; subst eo14) | ((with_reducible refine gate_dst (N := 5) rfl ?_); refine box_event ?hg (N := 5) ?hd (cs := #[.slice none 0 0, .slice none 0 0]) (t := 27) ?hr ?_; (case hd => rfl); (case hg => rfl); (case hr => first | (go_simp; done) | (go_simp; rfl)); intro gb335 hg w15 hbox hb; replace HO330 := zy_ HO330 hb; replace HO334 := zy_ HO334 hb; have BK335 := Aside0.mk (hbox); have GW335 := Aside0.mk (zs_ hg (zw1_ HB GE324)); have GE335 := Aside0.mk (zs_ hg (zw1_ HB GE324)); replace HB := Aside0.mk (below_step (zw1_ HB GE324) hb); have NB324_335 := Aside0.mk (zn_ hg BK324); have NB335_324 := Aside0.mk (zm_ hg BK324); replace BK324 := za_ BK324 hb; clear hb hbox hg; have hnb16 := NB335_324.out; have hnc16 := NB324_335.out; have hcz17_0 := zx_ (v := .slice none 0 0) BK335 0; have hcz17_1 := zx_ (v := .slice none 0 0) BK335 1; have hfz17_0 := blk_frozen BK335.out 0; have hfz17_1 := blk_frozen BK335.out 1))
 go_loopg [6] k (fun kq v6 w' => ∃ (x6_1 : Int) (x336001_1 : List Int) (u336001 : Value), v6 = .int .i64 x6_1 ∧ Aside0 (carouselref5_New.l0 kq a1 x6_1 y328 x336001_1 = some (r1, r2)) ∧ Aside0 (kq ≤ k) ∧ Aside0 (Kd.R (Kd.int .i64) 3 w' w.heap.size (fun _ => True) (.slice Ao14 y328.length co14) y328) ∧ Aside0 (Kd.R (Kd.int .i64) 23 w' w.heap.size (fun _ => True) u336001 x336001_1) ∧ Aside0 (w'.heap[gb324]? = some (.cells #[(.slice none 0 0), (.slice none 0 0)] 27 (0, 0))) ∧ Aside0 (w'.heap[gb335]? = some (.cells #[(.slice Ao14 y328.length co14), u336001] 27 (0, 0))) ∧ Aside0 (Below w.heap.size w w'))
 case atStart => exact ⟨(0), (y332), (.slice Ao13 y332.length co13), z1_, H', ⟨Nat.le_refl _⟩, ⟨zr_ (Kd.R_mono (Kd.R_far (p := ⟨gb335, 1, none⟩) (Kd.R_far (p := ⟨gb335, 0, none⟩) (Kd.R_types HO330.out BK335.out (by decide)) (fun _ hk => hk.2) (.slice Ao14 y328.length co14)) (fun _ hk => hk.2) (.slice Ao13 y332.length co13)) (fun _ hk => trivial))⟩, ⟨zr_ (Kd.R_mono (Kd.R_far (p := ⟨gb335, 1, none⟩) (Kd.R_far (p := ⟨gb335, 0, none⟩) (Kd.R_types HO334.out BK335.out (by decide)) (fun _ hk => hk.2) (.slice Ao14 y328.length co14)) (fun _ hk => hk.2) (.slice Ao13 y332.length co13)) (fun _ hk => trivial))⟩, ⟨zv1_ BK324 NB324_335⟩, ⟨zo2_ BK335⟩, ⟨zw2_ HB GE324 GE335⟩⟩
 case round =>
  clear H'
  try clear c1
  try clear p2
  try clear c3
  try clear c5
  try clear c5b0
  try clear c5b1
  try clear c6
  try clear c6b0
  try clear c6b1
  try clear c15
  try clear c16
  try clear hcz17_0
  try clear hcz17_1
  try clear hfz17_0
  try clear hfz17_1
  obtain ⟨x6_1, x336001_1, u336001, rfl, HA, HK1, HO_336000, HO_336001, BK324, BK335, HB⟩ := hrel
  cases gk with
  | zero => exact absurd HA.out (by simp [carouselref5_New.l0])
  | succ k1 =>
   have H := HA.out
   clear HA
   simp only [carouselref5_New.l0] at H
   by_cases c18 : x6_1 < (x336001_1.length : Int)
   rotate_left
   ·rw [if_neg c18] at H
    have c18b0 : decide (x6_1 < (x336001_1.length : Int)) = false := decide_eq_false c18
    clear c18
    simp only [Option.some.injEq, Prod.mk.injEq] at H
    obtain ⟨rfl, rfl⟩ := H
    have hnb26 := NB335_324.out
    have hnc26 := NB324_335.out
    have hcz27_0 := zx_ (v := .slice Ao14 y328.length co14) BK335 0
    have hcz27_1 := zx_ (v := u336001) BK335 1
    have hfz27_0 := blk_frozen BK335.out 0
    have hfz27_1 := blk_frozen BK335.out 1
    obtain ⟨Ao28, co28, eo28⟩ := Kd.R_slice HO_336001.out
    subst eo28
    have hcz29_0 := zx_ (v := .slice none 0 0) BK324 0
    have hcz29_1 := zx_ (v := .slice none 0 0) BK324 1
    have hfz29_0 := blk_frozen BK324.out 0
    have hfz29_1 := blk_frozen BK324.out 1
    go_wp2
    refine bodyPost_ret (results_cell_row rfl _ _ gb324 27 #[.slice Ao14 y328.length co14, .slice Ao28 x336001_1.length co28] (0, 0) _ rfl (zo2_ BK324) Try.underlying27 rfl (by kernel_rfl)) rfl ?_
    exact ⟨_, _, z0_, zr_ (Kd.R_mono (Kd.R_far (p := ⟨gb324, 1, none⟩) (Kd.R_far (p := ⟨gb324, 0, none⟩) (Kd.R_types HO_336000.out BK324.out (by decide)) (fun _ hk => hk.2) (.slice Ao14 y328.length co14)) (fun _ hk => hk.2) (.slice Ao28 x336001_1.length co28)) (fun _ hk => trivial)), zr_ (Kd.R_mono (Kd.R_far (p := ⟨gb324, 1, none⟩) (Kd.R_far (p := ⟨gb324, 0, none⟩) (Kd.R_types HO_336001.out BK324.out (by decide)) (fun _ hk => hk.2) (.slice Ao14 y328.length co14)) (fun _ hk => hk.2) (.slice Ao28 x336001_1.length co28)) (fun _ hk => trivial)), zw2_ HB GE324 GE335⟩
   rw [if_pos c18] at H
   have c18b0 : decide (x6_1 < (x336001_1.length : Int)) = true := decide_eq_true c18
   clear c18
   by_cases c19 : 0 ≤ x6_1
   rotate_left
   ·rw [if_neg c19] at H
    exact absurd H (by simp)
   rw [if_pos c19] at H
   have c19b0 : decide (0 ≤ x6_1) = true := decide_eq_true c19
   clear c19
   obtain ⟨y336, hy336⟩ : ∃ y_ : List Int, y_ = (x336001_1.set (x6_1 : Int).toNat a1) := ⟨_, rfl⟩
   replace H : (carouselref5_New.l0 k1 a1 (wrap64 (x6_1 + 1)) y328 y336) = some (r1, r2) := by first | (rw [hy336]; with_reducible exact H) | (have H2_ := (Option.bind_some _ _).symm.trans H; rw [hy336]; with_reducible exact H2_) | (have H2_ := (Option.bind_some _ _).symm.trans H; with_reducible exact H2_) | with_reducible exact H | (rw [hy336]; exact H) | exact H
   have Ny336 := Aside0.mk hy336
   clear hy336
   have H' := Aside0.mk H
   clear H
   have hnb21 := NB335_324.out
   have hnc21 := NB324_335.out
   have hcz22_0 := zx_ (v := .slice Ao14 y328.length co14) BK335 0
   have hcz22_1 := zx_ (v := u336001) BK335 1
   have hfz22_0 := blk_frozen BK335.out 0
   have hfz22_1 := blk_frozen BK335.out 1
   obtain ⟨Ao23, co23, eo23⟩ := Kd.R_slice HO_336001.out
   subst eo23
   have p20 : 0 ≤ (x6_1 : Int) := of_decide_eq_true (by first | (with_reducible assumption) | assumption)
   have q20 : (x6_1 : Int) < ((x336001_1.length : Int) : Int) := of_decide_eq_true (by first | (with_reducible assumption) | assumption)
   obtain ⟨go20, co20, eo20, gb20, gl20, cl20, HG20⟩ := Kd.R_form HO_336001.out (by omega)
   (first | cases eo20 | (injection eo20 with ea_ en_ ec_; (first | subst ea_ | (injection ea_ with ea_; subst ea_)); subst ec_; clear en_))
   have GB20 := Aside0.mk gb20
   have GG20 := Aside0.mk HG20
   clear gb20 gl20 HG20
   obtain ⟨hx20_0, hf20_0⟩ := Kd.R_celln 0 HO_336001.out (x6_1 : Int) p20 q20
   replace p20 := eq_true p20
   replace q20 := eq_true q20
   have HP24 := Kd.R_putg HO_336001.out (x6_1 : Int) a1
   go_wp2_with (first | ((with_reducible refine gate_store (t := 23) (p := 25) rfl ?_); refine store_event (t := 23) (p := 25) (v := ?vo_w25) (w1 := (wr.setCell ⟨go20, (x6_1 : Int).toNat, none⟩ (.int .i64 a1))) ?hg ?ho ?hn ?hr ?_; (case ho => rfl); (case hg => rfl); (case hn => rfl); (case hr => first | (go_simp; done) | (go_simp; rfl)); intro w25 hw; have hg : wr.grownBy w25 (some go20) := (by rw [hw]; exact HP24.2); have hp_ : Kd.R (Kd.int .i64) 23 w25 w.heap.size (fun _ => True) (.slice (some ⟨go20, 0, none⟩) x336001_1.length co23) y336 := (by rw [hw, Ny336.out]; exact HP24.1); clear HP24; replace HO_336000 := Aside0.mk (Kd.R_over' (v := (.slice (some ⟨go20, 0, none⟩) x336001_1.length co23)) (zr_ HO_336000.out) (Kd.R_typed HO_336001.out) (by decide) hg); replace BK324 := Aside0.mk (zh_ BK324 hg (Kd.R_ne HO_336001.out BK324.out (by decide))); replace BK335 := Aside0.mk (zh_ BK335 hg (Kd.R_ne HO_336001.out BK335.out (by decide))); replace HO_336001 := Aside0.mk (hp_); replace HB := Aside0.mk ((by rw [hw]; exact below_set (HB.out) GB20.out : Below w.heap.size w w25)); clear hg hw hp_))
   go_roundg k1
   case measure => have := HK1.out; omega
   case rel => exact ⟨(wrap64 (x6_1 + 1)), (y336), (.slice (some ⟨go20, 0, none⟩) x336001_1.length co23), z1_, H', ⟨by have := HK1.out; omega⟩, ⟨zr_ HO_336000.out⟩, ⟨zr_ HO_336001.out⟩, ⟨zb_ BK324⟩, ⟨zb_ BK335⟩, ⟨zw2_ HB GE324 GE335⟩⟩

/-! ### carouselref5_Is: function 18 -/
def carouselref5_Is.f (k : Nat) (l0_0 : List Int) (l0_1 : List Int) : Option (Bool) := (carouselref5_Good.f k l0_0).bind fun t338 => (if t338 = true then ((carouselref5_Size.f k l0_0).bind fun t339 => (some ((l0_1.length : Int) == t339))) else (some false))
theorem carouselref5_Is.mono : ∀ a0 a1 k, LeO (carouselref5_Is.f k a0 a1) (carouselref5_Is.f (k + 1) a0 a1) := by
 intro a0 a1 k
 unfold carouselref5_Is.f
 repeat' first
   | (with_reducible exact carouselref5_Good.mono _ _)
   | (with_reducible exact carouselref5_Size.mono _ _)
   | (with_reducible exact LeO.refl _)
   | (with_reducible exact LeO.none _)
   | (with_reducible refine LeO.ite ?_ ?_)
   | (with_reducible refine LeO.bind ?_ (fun _ => ?_))
   | exact carouselref5_Good.mono _ _
   | exact carouselref5_Size.mono _ _
   | exact LeO.none _
   | refine LeO.ite ?_ ?_
   | refine LeO.bind ?_ (fun _ => ?_)
set_option maxHeartbeats 8000000 in
set_option maxRecDepth 100000 in
theorem carouselref5_Is.calls (k : Nat) (A0_0 : Option Addr) (c0_0 : Nat) (l0_0 : List Int) (A0_1 : Option Addr) (c0_1 : Nat) (l0_1 : List Int) (r : Bool) (w : World) (hr0_0 : Kd.C (Kd.int .i64) w A0_0 l0_0.length l0_0) (hc0_0 : l0_0.length ≤ c0_0) (hr0_1 : Kd.C (Kd.int .i64) w A0_1 l0_1.length l0_1) (hc0_1 : l0_1.length ≤ c0_1) (h : carouselref5_Is.f k l0_0 l0_1 = some r) :
  Calls Try.prog 18 #[.agg #[.slice A0_0 l0_0.length c0_0, .slice A0_1 l0_1.length c0_1]] w fun e w' => e = .returned (.bool r) ∧ Below w.heap.size w w' := by
 have hu27 := Try.underlying27
 have HR0_0 := Aside0.mk hr0_0
 have HC0_0 := Aside0.mk hc0_0
 clear hr0_0 hc0_0
 have HR0_1 := Aside0.mk hr0_1
 have HC0_1 := Aside0.mk hc0_1
 clear hr0_1 hc0_1
 have HB := Aside0.mk (Below.refl w.heap.size w)
 have H : ((carouselref5_Good.f k l0_0).bind fun t338 => (if t338 = true then ((carouselref5_Size.f k l0_0).bind fun t339 => (some ((l0_1.length : Int) == t339))) else (some false))) = some r := h
 clear h
 replace H := Option.bind_eq_some_iff.mp H
 obtain ⟨t338, A20, H⟩ := H
 replace H : (if t338 = true then ((carouselref5_Size.f k l0_0).bind fun t339 => (some ((l0_1.length : Int) == t339))) else (some false)) = some r := H
 have A2 := Aside0.mk A20
 clear A20
 by_cases c3 : t338 = true
 rotate_left
 ·replace c3 := Bool.eq_false_iff.mpr c3
  subst c3
  have H1 : (some false) = some r := by rw [if_neg (show ¬ (false = true) by decide)] at H; exact H
  clear H
  have H := H1
  clear H1
  obtain rfl := Option.some.inj H
  go_enter Try.func18, Try.ntmps18
  go_wp2_with (first | ((with_reducible refine gate_dst (N := 1) rfl ?_); (try (refine gate_guard (by rfl) ?_; dsimp only)); refine box_event ?hg (N := 1) ?hd (cs := #[.slice A0_0 l0_0.length c0_0, .slice A0_1 l0_1.length c0_1]) (t := 27) ?hr ?_; (case hd => rfl); (case hg => rfl); (case hr => first | (go_simp; done) | (go_simp; rfl)); intro gb337 hg w7 hbox hb; have BK337 := Aside0.mk (hbox); have GW337 := Aside0.mk (zs_ hg (zw0_ HB)); have GE337 := Aside0.mk (zs_ hg (zw0_ HB)); replace HB := Aside0.mk (below_step (zw0_ HB) hb); clear hb hbox hg; have hcz8_0 := zx_ (v := .slice A0_0 l0_0.length c0_0) BK337 0; have hcz8_1 := zx_ (v := .slice A0_1 l0_1.length c0_1) BK337 1; have hfz8_0 := blk_frozen BK337.out 0; have hfz8_1 := blk_frozen BK337.out 1) | (go_at_call 13; (with_reducible refine (carouselref5_Good.calls k _ _ l0_0 false _ ?side1 ?side2 A2.out).mono ?_); (case side1 => exact zk_ (Kd.C_below HR0_0.out HB.out)); (case side2 => exact HC0_0.out); rintro e w' ⟨rfl, ⟨nd, rfl⟩⟩; (try first | exact ⟨rfl, _, World.drewN_drewN _ _ _⟩ | exact ⟨rfl, _, Eq.trans (World.drewN_drewN _ _ _) (congrArg (World.drewN _) (Nat.add_assoc _ _ _))⟩)))
  repeat (go_quiet (first | ((with_reducible refine gate_dst (N := 1) rfl ?_); (try (refine gate_guard (by rfl) ?_; dsimp only)); refine box_event ?hg (N := 1) ?hd (cs := #[.slice A0_0 l0_0.length c0_0, .slice A0_1 l0_1.length c0_1]) (t := 27) ?hr ?_; (case hd => rfl); (case hg => rfl); (case hr => first | (go_simp; done) | (go_simp; rfl)); intro gb337 hg w7 hbox hb; have BK337 := Aside0.mk (hbox); have GW337 := Aside0.mk (zs_ hg (zw0_ HB)); have GE337 := Aside0.mk (zs_ hg (zw0_ HB)); replace HB := Aside0.mk (below_step (zw0_ HB) hb); clear hb hbox hg; have hcz8_0 := zx_ (v := .slice A0_0 l0_0.length c0_0) BK337 0; have hcz8_1 := zx_ (v := .slice A0_1 l0_1.length c0_1) BK337 1; have hfz8_0 := blk_frozen BK337.out 0; have hfz8_1 := blk_frozen BK337.out 1) | (go_at_call 13; (with_reducible refine (carouselref5_Good.calls k _ _ l0_0 false _ ?side1 ?side2 A2.out).mono ?_); (case side1 => exact zk_ (Kd.C_below HR0_0.out HB.out)); (case side2 => exact HC0_0.out); rintro e w' ⟨rfl, ⟨nd, rfl⟩⟩; (try first | exact ⟨rfl, _, World.drewN_drewN _ _ _⟩ | exact ⟨rfl, _, Eq.trans (World.drewN_drewN _ _ _) (congrArg (World.drewN _) (Nat.add_assoc _ _ _))⟩))); try go_wp2_with (first | ((with_reducible refine gate_dst (N := 1) rfl ?_); (try (refine gate_guard (by rfl) ?_; dsimp only)); refine box_event ?hg (N := 1) ?hd (cs := #[.slice A0_0 l0_0.length c0_0, .slice A0_1 l0_1.length c0_1]) (t := 27) ?hr ?_; (case hd => rfl); (case hg => rfl); (case hr => first | (go_simp; done) | (go_simp; rfl)); intro gb337 hg w7 hbox hb; have BK337 := Aside0.mk (hbox); have GW337 := Aside0.mk (zs_ hg (zw0_ HB)); have GE337 := Aside0.mk (zs_ hg (zw0_ HB)); replace HB := Aside0.mk (below_step (zw0_ HB) hb); clear hb hbox hg; have hcz8_0 := zx_ (v := .slice A0_0 l0_0.length c0_0) BK337 0; have hcz8_1 := zx_ (v := .slice A0_1 l0_1.length c0_1) BK337 1; have hfz8_0 := blk_frozen BK337.out 0; have hfz8_1 := blk_frozen BK337.out 1) | (go_at_call 13; (with_reducible refine (carouselref5_Good.calls k _ _ l0_0 false _ ?side1 ?side2 A2.out).mono ?_); (case side1 => exact zk_ (Kd.C_below HR0_0.out HB.out)); (case side2 => exact HC0_0.out); rintro e w' ⟨rfl, ⟨nd, rfl⟩⟩; (try first | exact ⟨rfl, _, World.drewN_drewN _ _ _⟩ | exact ⟨rfl, _, Eq.trans (World.drewN_drewN _ _ _) (congrArg (World.drewN _) (Nat.add_assoc _ _ _))⟩))))
  go_ret
  exact ⟨z0_, zw1_ HB GE337⟩
 subst c3
 have H1 : ((carouselref5_Size.f k l0_0).bind fun t339 => (some ((l0_1.length : Int) == t339))) = some r := by rw [if_pos rfl] at H; exact H
 clear H
 have H := H1
 clear H1
 replace H := Option.bind_eq_some_iff.mp H
 obtain ⟨t339, A40, H⟩ := H
 replace H : (some ((l0_1.length : Int) == t339)) = some r := H
 have A4 := Aside0.mk A40
 clear A40
 obtain rfl := Option.some.inj H
 go_enter Try.func18, Try.ntmps18
 go_wp2_with (first | ((with_reducible refine gate_dst (N := 1) rfl ?_); (try (refine gate_guard (by rfl) ?_; dsimp only)); refine box_event ?hg (N := 1) ?hd (cs := #[.slice A0_0 l0_0.length c0_0, .slice A0_1 l0_1.length c0_1]) (t := 27) ?hr ?_; (case hd => rfl); (case hg => rfl); (case hr => first | (go_simp; done) | (go_simp; rfl)); intro gb337 hg w5 hbox hb; have BK337 := Aside0.mk (hbox); have GW337 := Aside0.mk (zs_ hg (zw0_ HB)); have GE337 := Aside0.mk (zs_ hg (zw0_ HB)); replace HB := Aside0.mk (below_step (zw0_ HB) hb); clear hb hbox hg; have hcz6_0 := zx_ (v := .slice A0_0 l0_0.length c0_0) BK337 0; have hcz6_1 := zx_ (v := .slice A0_1 l0_1.length c0_1) BK337 1; have hfz6_0 := blk_frozen BK337.out 0; have hfz6_1 := blk_frozen BK337.out 1) | (go_at_call 13; (with_reducible refine (carouselref5_Good.calls k _ _ l0_0 true _ ?side1 ?side2 A2.out).mono ?_); (case side1 => exact zk_ (Kd.C_below HR0_0.out HB.out)); (case side2 => exact HC0_0.out); rintro e w' ⟨rfl, ⟨nd, rfl⟩⟩; (try first | exact ⟨rfl, _, World.drewN_drewN _ _ _⟩ | exact ⟨rfl, _, Eq.trans (World.drewN_drewN _ _ _) (congrArg (World.drewN _) (Nat.add_assoc _ _ _))⟩)) | (go_at_call 38; (with_reducible refine (carouselref5_Size.calls k _ _ l0_0 t339 _ ?side1 ?side2 A4.out).mono ?_); (case side1 => repeat (first | exact (Kd.C_below HR0_0.out (zw1_ HB GE337)) | (with_reducible refine Kd.C_alloc ?_ _) | (with_reducible refine Kd.C_drewN ?_ _) | (with_reducible refine Kd.C_drew ?_))); (case side2 => exact HC0_0.out); rintro e w' ⟨rfl, ⟨nd, rfl⟩⟩; (try first | exact ⟨rfl, _, World.drewN_drewN _ _ _⟩ | exact ⟨rfl, _, Eq.trans (World.drewN_drewN _ _ _) (congrArg (World.drewN _) (Nat.add_assoc _ _ _))⟩)))
 repeat (go_quiet (first | ((with_reducible refine gate_dst (N := 1) rfl ?_); (try (refine gate_guard (by rfl) ?_; dsimp only)); refine box_event ?hg (N := 1) ?hd (cs := #[.slice A0_0 l0_0.length c0_0, .slice A0_1 l0_1.length c0_1]) (t := 27) ?hr ?_; (case hd => rfl); (case hg => rfl); (case hr => first | (go_simp; done) | (go_simp; rfl)); intro gb337 hg w5 hbox hb; have BK337 := Aside0.mk (hbox); have GW337 := Aside0.mk (zs_ hg (zw0_ HB)); have GE337 := Aside0.mk (zs_ hg (zw0_ HB)); replace HB := Aside0.mk (below_step (zw0_ HB) hb); clear hb hbox hg; have hcz6_0 := zx_ (v := .slice A0_0 l0_0.length c0_0) BK337 0; have hcz6_1 := zx_ (v := .slice A0_1 l0_1.length c0_1) BK337 1; have hfz6_0 := blk_frozen BK337.out 0; have hfz6_1 := blk_frozen BK337.out 1) | (go_at_call 13; (with_reducible refine (carouselref5_Good.calls k _ _ l0_0 true _ ?side1 ?side2 A2.out).mono ?_); (case side1 => exact zk_ (Kd.C_below HR0_0.out HB.out)); (case side2 => exact HC0_0.out); rintro e w' ⟨rfl, ⟨nd, rfl⟩⟩; (try first | exact ⟨rfl, _, World.drewN_drewN _ _ _⟩ | exact ⟨rfl, _, Eq.trans (World.drewN_drewN _ _ _) (congrArg (World.drewN _) (Nat.add_assoc _ _ _))⟩)) | (go_at_call 38; (with_reducible refine (carouselref5_Size.calls k _ _ l0_0 t339 _ ?side1 ?side2 A4.out).mono ?_); (case side1 => repeat (first | exact (Kd.C_below HR0_0.out (zw1_ HB GE337)) | (with_reducible refine Kd.C_alloc ?_ _) | (with_reducible refine Kd.C_drewN ?_ _) | (with_reducible refine Kd.C_drew ?_))); (case side2 => exact HC0_0.out); rintro e w' ⟨rfl, ⟨nd, rfl⟩⟩; (try first | exact ⟨rfl, _, World.drewN_drewN _ _ _⟩ | exact ⟨rfl, _, Eq.trans (World.drewN_drewN _ _ _) (congrArg (World.drewN _) (Nat.add_assoc _ _ _))⟩))); try go_wp2_with (first | ((with_reducible refine gate_dst (N := 1) rfl ?_); (try (refine gate_guard (by rfl) ?_; dsimp only)); refine box_event ?hg (N := 1) ?hd (cs := #[.slice A0_0 l0_0.length c0_0, .slice A0_1 l0_1.length c0_1]) (t := 27) ?hr ?_; (case hd => rfl); (case hg => rfl); (case hr => first | (go_simp; done) | (go_simp; rfl)); intro gb337 hg w5 hbox hb; have BK337 := Aside0.mk (hbox); have GW337 := Aside0.mk (zs_ hg (zw0_ HB)); have GE337 := Aside0.mk (zs_ hg (zw0_ HB)); replace HB := Aside0.mk (below_step (zw0_ HB) hb); clear hb hbox hg; have hcz6_0 := zx_ (v := .slice A0_0 l0_0.length c0_0) BK337 0; have hcz6_1 := zx_ (v := .slice A0_1 l0_1.length c0_1) BK337 1; have hfz6_0 := blk_frozen BK337.out 0; have hfz6_1 := blk_frozen BK337.out 1) | (go_at_call 13; (with_reducible refine (carouselref5_Good.calls k _ _ l0_0 true _ ?side1 ?side2 A2.out).mono ?_); (case side1 => exact zk_ (Kd.C_below HR0_0.out HB.out)); (case side2 => exact HC0_0.out); rintro e w' ⟨rfl, ⟨nd, rfl⟩⟩; (try first | exact ⟨rfl, _, World.drewN_drewN _ _ _⟩ | exact ⟨rfl, _, Eq.trans (World.drewN_drewN _ _ _) (congrArg (World.drewN _) (Nat.add_assoc _ _ _))⟩)) | (go_at_call 38; (with_reducible refine (carouselref5_Size.calls k _ _ l0_0 t339 _ ?side1 ?side2 A4.out).mono ?_); (case side1 => repeat (first | exact (Kd.C_below HR0_0.out (zw1_ HB GE337)) | (with_reducible refine Kd.C_alloc ?_ _) | (with_reducible refine Kd.C_drewN ?_ _) | (with_reducible refine Kd.C_drew ?_))); (case side2 => exact HC0_0.out); rintro e w' ⟨rfl, ⟨nd, rfl⟩⟩; (try first | exact ⟨rfl, _, World.drewN_drewN _ _ _⟩ | exact ⟨rfl, _, Eq.trans (World.drewN_drewN _ _ _) (congrArg (World.drewN _) (Nat.add_assoc _ _ _))⟩))))
 go_ret
 exact ⟨z0_, zw1_ HB GE337⟩

/-! ### carouselref1_Held: function 66 -/
def carouselref1_Held.j0 : Nat → Bool → Bool → Int → Int → Int → Int → Option (Int)
 | 0, _, _, _, _, _, _ => none
 | k + 1, x20, x341000, x341001, x341002, x341003, x341004 => if x20 = true then (if x341000 = true then (some (-9223372036854775808)) else (some 9223372036854775807)) else (if x341000 = true then (some (wrap64 (-(wrap64 (x341001))))) else (some (wrap64 (x341001))))
def carouselref1_Held.f (k : Nat) (a0_0 : Bool) (a0_1 : Int) (a0_2 : Int) (a0_3 : Int) (a0_4 : Int) : Option (Int) := if (Go.bits .or .u64 (Go.bits .or .u64 a0_2 a0_3) a0_4) = 0 then (carouselref1_Held.j0 k (decide (a0_1 ≥ 9223372036854775808)) a0_0 a0_1 a0_2 a0_3 a0_4) else (carouselref1_Held.j0 k true a0_0 a0_1 a0_2 a0_3 a0_4)
theorem carouselref1_Held.mono_l : ∀ k, (∀ y0 y1 y2 y3 y4 y5, LeO (carouselref1_Held.j0 k y0 y1 y2 y3 y4 y5) (carouselref1_Held.j0 (k + 1) y0 y1 y2 y3 y4 y5))
 | 0 => fun _ _ _ _ _ _ r h => by simp [carouselref1_Held.j0] at h
 | k + 1 => by
  have ih0 := carouselref1_Held.mono_l k
  ·intro y0 y1 y2 y3 y4 y5
   unfold carouselref1_Held.j0
   repeat' first
   | (with_reducible exact ih0 _ _ _ _ _ _)
   | (with_reducible exact LeO.refl _)
   | (with_reducible exact LeO.none _)
   | (with_reducible refine LeO.ite ?_ ?_)
   | (with_reducible refine LeO.bind ?_ (fun _ => ?_))
   | exact ih0 _ _ _ _ _ _
   | exact LeO.none _
   | refine LeO.ite ?_ ?_
   | refine LeO.bind ?_ (fun _ => ?_)
theorem carouselref1_Held.mono : ∀ a0 a1 a2 a3 a4 k, LeO (carouselref1_Held.f k a0 a1 a2 a3 a4) (carouselref1_Held.f (k + 1) a0 a1 a2 a3 a4) := by
 intro a0 a1 a2 a3 a4 k
 have ih0 := carouselref1_Held.mono_l k
 unfold carouselref1_Held.f
 repeat' first
   | (with_reducible exact ih0 _ _ _ _ _ _)
   | (with_reducible exact LeO.refl _)
   | (with_reducible exact LeO.none _)
   | (with_reducible refine LeO.ite ?_ ?_)
   | (with_reducible refine LeO.bind ?_ (fun _ => ?_))
   | exact ih0 _ _ _ _ _ _
   | exact LeO.none _
   | refine LeO.ite ?_ ?_
   | refine LeO.bind ?_ (fun _ => ?_)
set_option maxHeartbeats 8000000 in
set_option maxRecDepth 100000 in
theorem carouselref1_Held.calls (k : Nat) (a0_0 : Bool) (a0_1 : Int) (a0_2 : Int) (a0_3 : Int) (a0_4 : Int) (r : Int) (w : World) (h : carouselref1_Held.f k a0_0 a0_1 a0_2 a0_3 a0_4 = some r) :
  Calls Try.prog 66 #[.agg #[.bool a0_0, .int .u64 a0_1, .int .u64 a0_2, .int .u64 a0_3, .int .u64 a0_4]] w fun e w' => e = .returned (.int .i64 r) ∧ Below w.heap.size w w' := by
 have hu74 := Try.underlying74
 have HB := Aside0.mk (Below.refl w.heap.size w)
 have H : (if (Go.bits .or .u64 (Go.bits .or .u64 a0_2 a0_3) a0_4) = 0 then (carouselref1_Held.j0 k (decide (a0_1 ≥ 9223372036854775808)) a0_0 a0_1 a0_2 a0_3 a0_4) else (carouselref1_Held.j0 k true a0_0 a0_1 a0_2 a0_3 a0_4)) = some r := h
 clear h
 have HC2 := Aside0.mk H
 clear H
 go_enter Try.func66, Try.ntmps66
 go_upto_region 1 with (first | ((with_reducible refine gate_dst (N := 1) rfl ?_); refine box_event ?hg (N := 1) ?hd (cs := #[.bool a0_0, .int .u64 a0_1, .int .u64 a0_2, .int .u64 a0_3, .int .u64 a0_4]) (t := 74) ?hr ?_; (case hd => rfl); (case hg => rfl); (case hr => first | (go_simp; done) | (go_simp; rfl)); intro gb340 hg w3 hbox hb; have BK340 := Aside0.mk (hbox); have GW340 := Aside0.mk (zs_ hg (zw0_ HB)); have GE340 := Aside0.mk (zs_ hg (zw0_ HB)); replace HB := Aside0.mk (below_step (zw0_ HB) hb); clear hb hbox hg))
 (try simp only [Act.put, List.setIfInBounds_toArray, List.set_cons_zero, List.set_cons_succ])
 go_cut [20] (fun v20 wc => ∃ (kq : Nat) (x20_1 : Bool), v20 = .bool x20_1 ∧ Aside0 (carouselref1_Held.j0 kq x20_1 a0_0 a0_1 a0_2 a0_3 a0_4 = some r) ∧ Aside0 (kq ≤ k) ∧ Aside0 (wc.heap[gb340]? = some (.cells #[.bool a0_0, .int .u64 a0_1, .int .u64 a0_2, .int .u64 a0_3, .int .u64 a0_4] 74 (0, 0))) ∧ Aside0 (Below w.heap.size w wc))
 case first =>
  have H := HC2.out
  clear HC2
  by_cases c4 : (Go.bits .or .u64 (Go.bits .or .u64 a0_2 a0_3) a0_4) = 0
  rotate_left
  ·rw [if_neg c4] at H
   have c4b0 : ((Go.bits .or .u64 (Go.bits .or .u64 a0_2 a0_3) a0_4) == 0) = false := beq_eq_false_iff_ne.mpr c4
   have c4b1 : ((Go.bits .or .u64 (Go.bits .or .u64 a0_2 a0_3) a0_4) != 0) = true := bne_iff_ne.mpr c4
   (first | rw [c4b0] | (simp only [i64_w, i32_w]; rw [c4b0]) | skip)
   have H' := Aside0.mk H
   clear H
   have hcz6_0 := zx_ (v := .bool a0_0) BK340 0
   have hcz6_1 := zx_ (v := .int .u64 a0_1) BK340 1
   have hcz6_2 := zx_ (v := .int .u64 a0_2) BK340 2
   have hcz6_3 := zx_ (v := .int .u64 a0_3) BK340 3
   have hcz6_4 := zx_ (v := .int .u64 a0_4) BK340 4
   have hfz6_0 := blk_frozen BK340.out 0
   have hfz6_1 := blk_frozen BK340.out 1
   have hfz6_2 := blk_frozen BK340.out 2
   have hfz6_3 := blk_frozen BK340.out 3
   have hfz6_4 := blk_frozen BK340.out 4
   go_wp2
   go_meet
   case rel => exact ⟨_, (true), z1_, H', ⟨by first | omega | exact Nat.le_refl _⟩, ⟨zb_ BK340⟩, ⟨zw1_ HB GE340⟩⟩
  rw [if_pos c4] at H
  have c4b0 : ((Go.bits .or .u64 (Go.bits .or .u64 a0_2 a0_3) a0_4) == 0) = true := beq_iff_eq.mpr c4
  have c4b1 : ((Go.bits .or .u64 (Go.bits .or .u64 a0_2 a0_3) a0_4) != 0) = false := bne_eq_false_iff_eq.mpr c4
  clear c4
  (first | rw [c4b0] | (simp only [i64_w, i32_w]; rw [c4b0]) | skip)
  have H' := Aside0.mk H
  clear H
  have hcz5_0 := zx_ (v := .bool a0_0) BK340 0
  have hcz5_1 := zx_ (v := .int .u64 a0_1) BK340 1
  have hcz5_2 := zx_ (v := .int .u64 a0_2) BK340 2
  have hcz5_3 := zx_ (v := .int .u64 a0_3) BK340 3
  have hcz5_4 := zx_ (v := .int .u64 a0_4) BK340 4
  have hfz5_0 := blk_frozen BK340.out 0
  have hfz5_1 := blk_frozen BK340.out 1
  have hfz5_2 := blk_frozen BK340.out 2
  have hfz5_3 := blk_frozen BK340.out 3
  have hfz5_4 := blk_frozen BK340.out 4
  go_wp2
  go_meet
  case rel => exact ⟨_, (decide (a0_1 ≥ 9223372036854775808)), z1_, H', ⟨by first | omega | exact Nat.le_refl _⟩, ⟨zb_ BK340⟩, ⟨zw1_ HB GE340⟩⟩
 case rest =>
  clear HC2
  try clear p2
  try clear c4
  try clear c4b0
  try clear c4b1
  try clear c6
  try clear hcz5_0
  try clear hcz5_1
  try clear hcz5_2
  try clear hcz5_3
  try clear hcz5_4
  try clear hcz6_0
  try clear hcz6_1
  try clear hcz6_2
  try clear hcz6_3
  try clear hcz6_4
  try clear hfz5_0
  try clear hfz5_1
  try clear hfz5_2
  try clear hfz5_3
  try clear hfz5_4
  try clear hfz6_0
  try clear hfz6_1
  try clear hfz6_2
  try clear hfz6_3
  try clear hfz6_4
  obtain ⟨kq, x20_1, rfl, HA, HJ1, BK340, HB⟩ := hcut
  cases kq with
  | zero => exact absurd HA.out (by simp [carouselref1_Held.j0])
  | succ kj1 =>
   have H := HA.out
   clear HA
   simp only [carouselref1_Held.j0] at H
   by_cases c7 : x20_1 = true
   ·subst c7
    have H1 : (if a0_0 = true then (some (-9223372036854775808)) else (some 9223372036854775807)) = some r := by rw [if_pos rfl] at H; exact H
    clear H
    have H := H1
    clear H1
    by_cases c8 : a0_0 = true
    ·subst c8
     have H1 : (some (-9223372036854775808)) = some r := by rw [if_pos rfl] at H; exact H
     clear H
     have H := H1
     clear H1
     obtain rfl := Option.some.inj H
     have hcz9_0 := zx_ (v := .bool true) BK340 0
     have hcz9_1 := zx_ (v := .int .u64 a0_1) BK340 1
     have hcz9_2 := zx_ (v := .int .u64 a0_2) BK340 2
     have hcz9_3 := zx_ (v := .int .u64 a0_3) BK340 3
     have hcz9_4 := zx_ (v := .int .u64 a0_4) BK340 4
     have hfz9_0 := blk_frozen BK340.out 0
     have hfz9_1 := blk_frozen BK340.out 1
     have hfz9_2 := blk_frozen BK340.out 2
     have hfz9_3 := blk_frozen BK340.out 3
     have hfz9_4 := blk_frozen BK340.out 4
     go_wp2
     go_ret
     exact ⟨z0_, zw1_ HB GE340⟩
    replace c8 := Bool.eq_false_iff.mpr c8
    subst c8
    have H1 : (some 9223372036854775807) = some r := by rw [if_neg (show ¬ (false = true) by decide)] at H; exact H
    clear H
    have H := H1
    clear H1
    obtain rfl := Option.some.inj H
    have hcz10_0 := zx_ (v := .bool false) BK340 0
    have hcz10_1 := zx_ (v := .int .u64 a0_1) BK340 1
    have hcz10_2 := zx_ (v := .int .u64 a0_2) BK340 2
    have hcz10_3 := zx_ (v := .int .u64 a0_3) BK340 3
    have hcz10_4 := zx_ (v := .int .u64 a0_4) BK340 4
    have hfz10_0 := blk_frozen BK340.out 0
    have hfz10_1 := blk_frozen BK340.out 1
    have hfz10_2 := blk_frozen BK340.out 2
    have hfz10_3 := blk_frozen BK340.out 3
    have hfz10_4 := blk_frozen BK340.out 4
    go_wp2
    go_ret
    exact ⟨z0_, zw1_ HB GE340⟩
   replace c7 := Bool.eq_false_iff.mpr c7
   subst c7
   have H1 := H
   rw [if_neg (show ¬ (false = true) by decide)] at H1
   clear H
   have H := H1
   clear H1
   by_cases c11 : a0_0 = true
   ·subst c11
    have H1 : (some (wrap64 (-(wrap64 (a0_1))))) = some r := by rw [if_pos rfl] at H; exact H
    clear H
    have H := H1
    clear H1
    obtain rfl := Option.some.inj H
    have hcz12_0 := zx_ (v := .bool true) BK340 0
    have hcz12_1 := zx_ (v := .int .u64 a0_1) BK340 1
    have hcz12_2 := zx_ (v := .int .u64 a0_2) BK340 2
    have hcz12_3 := zx_ (v := .int .u64 a0_3) BK340 3
    have hcz12_4 := zx_ (v := .int .u64 a0_4) BK340 4
    have hfz12_0 := blk_frozen BK340.out 0
    have hfz12_1 := blk_frozen BK340.out 1
    have hfz12_2 := blk_frozen BK340.out 2
    have hfz12_3 := blk_frozen BK340.out 3
    have hfz12_4 := blk_frozen BK340.out 4
    go_wp2
    go_ret
    exact ⟨z0_, zw1_ HB GE340⟩
   replace c11 := Bool.eq_false_iff.mpr c11
   subst c11
   have H1 : (some (wrap64 (a0_1))) = some r := by rw [if_neg (show ¬ (false = true) by decide)] at H; exact H
   clear H
   have H := H1
   clear H1
   obtain rfl := Option.some.inj H
   have hcz13_0 := zx_ (v := .bool false) BK340 0
   have hcz13_1 := zx_ (v := .int .u64 a0_1) BK340 1
   have hcz13_2 := zx_ (v := .int .u64 a0_2) BK340 2
   have hcz13_3 := zx_ (v := .int .u64 a0_3) BK340 3
   have hcz13_4 := zx_ (v := .int .u64 a0_4) BK340 4
   have hfz13_0 := blk_frozen BK340.out 0
   have hfz13_1 := blk_frozen BK340.out 1
   have hfz13_2 := blk_frozen BK340.out 2
   have hfz13_3 := blk_frozen BK340.out 3
   have hfz13_4 := blk_frozen BK340.out 4
   go_wp2
   go_ret
   exact ⟨z0_, zw1_ HB GE340⟩

end Go.Proofs.Ytbdhabpplidgfaa.PTensTurns
