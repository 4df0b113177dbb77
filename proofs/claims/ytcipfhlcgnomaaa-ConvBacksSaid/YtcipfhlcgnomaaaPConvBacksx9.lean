/- The functions that the law ConvBacks reaches, as Lean functions, and that each call of the Go function does what its Lean function says, wherever that one answers. Written by a program of mine over the print of the kit; Lean checks it. -/
import Derived.Test.YtcipfhlcgnomaaaPConvBacksx0
namespace Go.Proofs.Ytcipfhlcgnomaaa.PConvBacks
open Go.RowKit Go.Proofs.YtcipfhlcgnomaaaW.PrintWords Go.Proofs.YtcipfhlcgnomaaaW.PrintLast Go.Proofs.YtcipfhlcgnomaaaW.PrintMore
attribute [local go_sem] max2_int min2_int max_two min_two max_three min_three max_four min_four   -- for this text's walks alone
set_option linter.unusedVariables false
set_option linter.unusedSimpArgs false

/-! ### carouselref5_Good: function 33 -/
mutual
def carouselref5_Good.l0 : Nat → List Int → Int → Int → Option (Bool)
 | 0, _, _, _ => none
 | k + 1, x0, x3, x4 => if x4 < (x0.length : Int) then (if 0 ≤ x4 then (if (rd x0 x4) < 1 then (carouselref5_Good.j1 k x0 x3 x4 true) else (carouselref5_Good.j1 k x0 x3 x4 (decide ((rd x0 x4) > 4096)))) else (none)) else (some true)
def carouselref5_Good.j1 : Nat → List Int → Int → Int → Bool → Option (Bool)
 | 0, _, _, _, _ => none
 | k + 1, x0, x3, x4, x25 => if x25 = true then (some false) else (if 0 ≤ x4 then (if x4 < (x0.length : Int) then (if (wrap64 (x3 * (rd x0 x4))) > 4096 then (some false) else (carouselref5_Good.l0 k x0 (wrap64 (x3 * (rd x0 x4))) (wrap64 (x4 + 1)))) else (none)) else (none))
end
def carouselref5_Good.f (k : Nat) (l0 : List Int) : Option (Bool) := if (l0.length : Int) > 4 then (some false) else (carouselref5_Good.l0 k l0 1 0)
theorem carouselref5_Good.mono_l : ∀ k, (∀ y0 y1 y2, LeO (carouselref5_Good.l0 k y0 y1 y2) (carouselref5_Good.l0 (k + 1) y0 y1 y2)) ∧ (∀ y0 y1 y2 y3, LeO (carouselref5_Good.j1 k y0 y1 y2 y3) (carouselref5_Good.j1 (k + 1) y0 y1 y2 y3))
 | 0 => ⟨fun _ _ _ r h => by simp [carouselref5_Good.l0] at h, fun _ _ _ _ r h => by simp [carouselref5_Good.j1] at h⟩
 | k + 1 => by
  obtain ⟨ih0, ih1⟩ := carouselref5_Good.mono_l k
  refine ⟨?_, ?_⟩
  ·intro y0 y1 y2
   unfold carouselref5_Good.l0
   repeat' first
   | (with_reducible exact ih0 _ _ _)
   | (with_reducible exact ih1 _ _ _ _)
   | (with_reducible exact LeO.refl _)
   | (with_reducible exact LeO.none _)
   | (with_reducible refine LeO.ite ?_ ?_)
   | (with_reducible refine LeO.bind ?_ (fun _ => ?_))
   | exact ih0 _ _ _
   | exact ih1 _ _ _ _
   | exact LeO.none _
   | refine LeO.ite ?_ ?_
   | refine LeO.bind ?_ (fun _ => ?_)
  ·intro y0 y1 y2 y3
   unfold carouselref5_Good.j1
   repeat' first
   | (with_reducible exact ih0 _ _ _)
   | (with_reducible exact ih1 _ _ _ _)
   | (with_reducible exact LeO.refl _)
   | (with_reducible exact LeO.none _)
   | (with_reducible refine LeO.ite ?_ ?_)
   | (with_reducible refine LeO.bind ?_ (fun _ => ?_))
   | exact ih0 _ _ _
   | exact ih1 _ _ _ _
   | exact LeO.none _
   | refine LeO.ite ?_ ?_
   | refine LeO.bind ?_ (fun _ => ?_)
theorem carouselref5_Good.mono : ∀ a0 k, LeO (carouselref5_Good.f k a0) (carouselref5_Good.f (k + 1) a0) := by
 intro a0 k
 obtain ⟨ih0, ih1⟩ := carouselref5_Good.mono_l k
 unfold carouselref5_Good.f
 repeat' first
   | (with_reducible exact ih0 _ _ _)
   | (with_reducible exact ih1 _ _ _ _)
   | (with_reducible exact LeO.refl _)
   | (with_reducible exact LeO.none _)
   | (with_reducible refine LeO.ite ?_ ?_)
   | (with_reducible refine LeO.bind ?_ (fun _ => ?_))
   | exact ih0 _ _ _
   | exact ih1 _ _ _ _
   | exact LeO.none _
   | refine LeO.ite ?_ ?_
   | refine LeO.bind ?_ (fun _ => ?_)
set_option maxHeartbeats 8000000 in
set_option maxRecDepth 100000 in
theorem carouselref5_Good.calls (k : Nat) (A0 : Option Addr) (c0 : Nat) (l0 : List Int) (r : Bool) (w : World) (hr0 : Kd.C (Kd.int .i64) w A0 l0.length l0) (hc0 : l0.length ≤ c0) (h : carouselref5_Good.f k l0 = some r) :
  Calls Try.prog 33 #[.slice A0 l0.length c0] w fun e w' => e = .returned (.bool r) ∧ Drawn0 w w' := by
 have HR0 := Aside0.mk hr0
 have HC0 := Aside0.mk hc0
 clear hr0 hc0
 have H : (if (l0.length : Int) > 4 then (some false) else (carouselref5_Good.l0 k l0 1 0)) = some r := h
 clear h
 by_cases c2 : (l0.length : Int) > 4
 ·rw [if_pos c2] at H
  have c2b0 : decide (4 < (l0.length : Int)) = true := decide_eq_true c2
  have c2b1 : decide (4 < l0.length) = true := decide_eq_true (by omega)
  clear c2
  obtain rfl := Option.some.inj H
  go_enter Try.func33, Try.ntmps33
  go_wp2
  go_ret
  exact ⟨by first | rfl | (simp; done) | (simp [*]; done), by repeat (first | exact Drawn0.refl _ | apply Drawn0.step)⟩
 rw [if_neg c2] at H
 have c2b0 : decide (4 < (l0.length : Int)) = false := decide_eq_false c2
 have c2b1 : decide (4 < l0.length) = false := decide_eq_false (by omega)
 clear c2
 have H' := Aside0.mk H
 clear H
 go_enter Try.func33, Try.ntmps33
 go_wp2
 go_loopg [3, 4] k (fun kq v3 v4 w' => ∃ (x3_1 : Int) (x4_1 : Int), v3 = .int .i64 x3_1 ∧ v4 = .int .i64 x4_1 ∧ Aside0 (carouselref5_Good.l0 kq l0 x3_1 x4_1 = some r) ∧ Aside0 (kq ≤ k) ∧ Drawn0 w w')
 case atStart => exact ⟨(1), (0), z1_, z1_, H', ⟨Nat.le_refl _⟩, by repeat (first | exact Drawn0.refl _ | apply Drawn0.step)⟩
 case round =>
  clear H'
  try clear c2
  try clear c2b0
  try clear c2b1
  try clear p2
  obtain ⟨x3_1, x4_1, rfl, rfl, HA, HK1, ⟨m1, rfl⟩⟩ := hrel
  cases gk with
  | zero => exact absurd HA.out (by simp [carouselref5_Good.l0])
  | succ k1 =>
   have H := HA.out
   clear HA
   simp only [carouselref5_Good.l0] at H
   by_cases c3 : x4_1 < (l0.length : Int)
   rotate_left
   ·rw [if_neg c3] at H
    have c3b0 : decide (x4_1 < (l0.length : Int)) = false := decide_eq_false c3
    clear c3
    obtain rfl := Option.some.inj H
    go_wp2
    go_ret
    exact ⟨by first | rfl | (simp; done) | (simp [*]; done), by repeat (first | exact Drawn0.refl _ | apply Drawn0.step)⟩
   rw [if_pos c3] at H
   have c3b0 : decide (x4_1 < (l0.length : Int)) = true := decide_eq_true c3
   clear c3
   have HC4 := Aside0.mk H
   clear H
   go_upto_region 7 with (fail)
   go_cut [25] (fun v25 wc => ∃ (kq : Nat) (x25_3 : Bool), v25 = .bool x25_3 ∧ Aside0 (carouselref5_Good.j1 kq l0 x3_1 x4_1 x25_3 = some r) ∧ Aside0 (kq ≤ k1) ∧ Drawn0 w wc)
   case first =>
    have H := HC4.out
    clear HC4
    by_cases c5 : 0 ≤ x4_1
    rotate_left
    ·rw [if_neg c5] at H
     exact absurd H (by simp)
    rw [if_pos c5] at H
    have c5b0 : decide (0 ≤ x4_1) = true := decide_eq_true c5
    clear c5
    (first | rw [c5b0] | (simp only [i64_w, i32_w]; rw [c5b0]) | skip)
    by_cases c6 : (rd l0 x4_1) < 1
    ·rw [if_pos c6] at H
     have c6b0 : decide ((rd l0 x4_1) < 1) = true := decide_eq_true c6
     clear c6
     have H' := Aside0.mk H
     clear H
     have p276 : 0 ≤ (x4_1 : Int) := of_decide_eq_true (by first | (with_reducible assumption) | assumption)
     have q276 : x4_1 < (l0.length : Int) := of_decide_eq_true (by first | (with_reducible assumption) | assumption)
     obtain ⟨ad276, e276, hx276_0⟩ := Kd.at_int HR0.out x4_1 p276 q276
     cases e276
     replace p276 := eq_true p276
     replace q276 := eq_true q276
     go_wp2
     go_meet
     case rel => exact ⟨_, (true), z1_, H', ⟨by have := HK1.out; first | omega | exact Nat.le_refl _⟩, by repeat (first | exact Drawn0.refl _ | apply Drawn0.step)⟩
    rw [if_neg c6] at H
    have c6b0 : decide ((rd l0 x4_1) < 1) = false := decide_eq_false c6
    clear c6
    have H' := Aside0.mk H
    clear H
    have p276 : 0 ≤ (x4_1 : Int) := of_decide_eq_true (by first | (with_reducible assumption) | assumption)
    have q276 : x4_1 < (l0.length : Int) := of_decide_eq_true (by first | (with_reducible assumption) | assumption)
    obtain ⟨ad276, e276, hx276_0⟩ := Kd.at_int HR0.out x4_1 p276 q276
    cases e276
    replace p276 := eq_true p276
    replace q276 := eq_true q276
    have p277 : 0 ≤ (x4_1 : Int) := of_decide_eq_true (by first | (with_reducible assumption) | assumption)
    have q277 : x4_1 < (l0.length : Int) := of_decide_eq_true (by first | (with_reducible assumption) | assumption)
    obtain ⟨ad277, e277, hx277_0⟩ := Kd.at_int HR0.out x4_1 p277 q277
    obtain rfl : ad276 = ad277 := (by injection e277)
    replace p277 := eq_true p277
    replace q277 := eq_true q277
    go_wp2
    go_meet
    case rel => exact ⟨_, (decide ((rd l0 x4_1) > 4096)), z1_, H', ⟨by have := HK1.out; first | omega | exact Nat.le_refl _⟩, by repeat (first | exact Drawn0.refl _ | apply Drawn0.step)⟩
   case rest =>
    clear HC4
    try clear c2
    try clear c2b0
    try clear c2b1
    try clear p2
    try clear q2
    try clear hx2
    try clear c3
    try clear c3b0
    try clear c5
    try clear c5b0
    try clear c6
    try clear c6b0
    try clear hx276_0
    try clear hx277_0
    try clear p2
    try clear p276
    try clear p277
    try clear q276
    try clear q277
    obtain ⟨kq, x25_3, rfl, HA, HJ3, ⟨mc3, rfl⟩⟩ := hcut
    cases kq with
    | zero => exact absurd HA.out (by simp [carouselref5_Good.j1])
    | succ kj3 =>
     have H := HA.out
     clear HA
     simp only [carouselref5_Good.j1] at H
     by_cases c7 : x25_3 = true
     ·subst c7
      have H1 : (some false) = some r := by rw [if_pos rfl] at H; exact H
      clear H
      have H := H1
      clear H1
      obtain rfl := Option.some.inj H
      go_wp2
      go_ret
      exact ⟨by first | rfl | (simp; done) | (simp [*]; done), by repeat (first | exact Drawn0.refl _ | apply Drawn0.step)⟩
     replace c7 := Bool.eq_false_iff.mpr c7
     subst c7
     have H1 := H
     rw [if_neg (show ¬ (false = true) by decide)] at H1
     clear H
     have H := H1
     clear H1
     by_cases c8 : 0 ≤ x4_1
     rotate_left
     ·rw [if_neg c8] at H
      exact absurd H (by simp)
     rw [if_pos c8] at H
     have c8b0 : decide (0 ≤ x4_1) = true := decide_eq_true c8
     clear c8
     by_cases c9 : x4_1 < (l0.length : Int)
     rotate_left
     ·rw [if_neg c9] at H
      exact absurd H (by simp)
     rw [if_pos c9] at H
     have c9b0 : decide (x4_1 < (l0.length : Int)) = true := decide_eq_true c9
     clear c9
     by_cases c10 : (wrap64 (x3_1 * (rd l0 x4_1))) > 4096
     ·rw [if_pos c10] at H
      have c10b0 : decide (4096 < (wrap64 (x3_1 * (rd l0 x4_1)))) = true := decide_eq_true c10
      clear c10
      obtain rfl := Option.some.inj H
      have p278 : 0 ≤ (x4_1 : Int) := of_decide_eq_true (by first | (with_reducible assumption) | assumption)
      have q278 : x4_1 < (l0.length : Int) := of_decide_eq_true (by first | (with_reducible assumption) | assumption)
      obtain ⟨ad278, e278, hx278_0⟩ := Kd.at_int HR0.out x4_1 p278 q278
      cases e278
      replace p278 := eq_true p278
      replace q278 := eq_true q278
      go_wp2
      go_ret
      exact ⟨by first | rfl | (simp; done) | (simp [*]; done), by repeat (first | exact Drawn0.refl _ | apply Drawn0.step)⟩
     rw [if_neg c10] at H
     have c10b0 : decide (4096 < (wrap64 (x3_1 * (rd l0 x4_1)))) = false := decide_eq_false c10
     clear c10
     have H' := Aside0.mk H
     clear H
     have p278 : 0 ≤ (x4_1 : Int) := of_decide_eq_true (by first | (with_reducible assumption) | assumption)
     have q278 : x4_1 < (l0.length : Int) := of_decide_eq_true (by first | (with_reducible assumption) | assumption)
     obtain ⟨ad278, e278, hx278_0⟩ := Kd.at_int HR0.out x4_1 p278 q278
     cases e278
     replace p278 := eq_true p278
     replace q278 := eq_true q278
     go_wp2
     go_roundg kj3
     case measure => have := HK1.out; have := HJ3.out; omega
     case rel => exact ⟨(wrap64 (x3_1 * (rd l0 x4_1))), (wrap64 (x4_1 + 1)), z1_, z1_, H', ⟨by have := HK1.out; have := HJ3.out; omega⟩, by repeat (first | exact Drawn0.refl _ | apply Drawn0.step)⟩

/-! ### carouselref5_Size: function 47 -/
def carouselref5_Size.l0 : Nat → List Int → Int → Int → Option (Int)
 | 0, _, _, _ => none
 | k + 1, x0, x3, x4 => if x4 < (x0.length : Int) then (if 0 ≤ x4 then (carouselref5_Size.l0 k x0 (wrap64 (x3 * (rd x0 x4))) (wrap64 (x4 + 1))) else (none)) else (some x3)
def carouselref5_Size.f (k : Nat) (l0 : List Int) : Option (Int) := (carouselref5_Good.f k l0).bind fun t279 => (if t279 = true then (carouselref5_Size.l0 k l0 1 0) else (some 0))
theorem carouselref5_Size.mono_l : ∀ k, (∀ y0 y1 y2, LeO (carouselref5_Size.l0 k y0 y1 y2) (carouselref5_Size.l0 (k + 1) y0 y1 y2))
 | 0 => fun _ _ _ r h => by simp [carouselref5_Size.l0] at h
 | k + 1 => by
  have ih0 := carouselref5_Size.mono_l k
  ·intro y0 y1 y2
   unfold carouselref5_Size.l0
   repeat' first
   | (with_reducible exact ih0 _ _ _)
   | (with_reducible exact LeO.refl _)
   | (with_reducible exact LeO.none _)
   | (with_reducible refine LeO.ite ?_ ?_)
   | (with_reducible refine LeO.bind ?_ (fun _ => ?_))
   | exact ih0 _ _ _
   | exact LeO.none _
   | refine LeO.ite ?_ ?_
   | refine LeO.bind ?_ (fun _ => ?_)
theorem carouselref5_Size.mono : ∀ a0 k, LeO (carouselref5_Size.f k a0) (carouselref5_Size.f (k + 1) a0) := by
 intro a0 k
 have ih0 := carouselref5_Size.mono_l k
 unfold carouselref5_Size.f
 repeat' first
   | (with_reducible exact ih0 _ _ _)
   | (with_reducible exact carouselref5_Good.mono _ _)
   | (with_reducible exact LeO.refl _)
   | (with_reducible exact LeO.none _)
   | (with_reducible refine LeO.ite ?_ ?_)
   | (with_reducible refine LeO.bind ?_ (fun _ => ?_))
   | exact ih0 _ _ _
   | exact carouselref5_Good.mono _ _
   | exact LeO.none _
   | refine LeO.ite ?_ ?_
   | refine LeO.bind ?_ (fun _ => ?_)
set_option maxHeartbeats 8000000 in
set_option maxRecDepth 100000 in
theorem carouselref5_Size.calls (k : Nat) (A0 : Option Addr) (c0 : Nat) (l0 : List Int) (r : Int) (w : World) (hr0 : Kd.C (Kd.int .i64) w A0 l0.length l0) (hc0 : l0.length ≤ c0) (h : carouselref5_Size.f k l0 = some r) :
  Calls Try.prog 47 #[.slice A0 l0.length c0] w fun e w' => e = .returned (.int .i64 r) ∧ Drawn0 w w' := by
 have HR0 := Aside0.mk hr0
 have HC0 := Aside0.mk hc0
 clear hr0 hc0
 have H : ((carouselref5_Good.f k l0).bind fun t279 => (if t279 = true then (carouselref5_Size.l0 k l0 1 0) else (some 0))) = some r := h
 clear h
 replace H := Option.bind_eq_some_iff.mp H
 obtain ⟨t279, A20, H⟩ := H
 replace H : (if t279 = true then (carouselref5_Size.l0 k l0 1 0) else (some 0)) = some r := H
 have A2 := Aside0.mk A20
 clear A20
 by_cases c3 : t279 = true
 rotate_left
 ·replace c3 := Bool.eq_false_iff.mpr c3
  subst c3
  have H1 : (some 0) = some r := by rw [if_neg (show ¬ (false = true) by decide)] at H; exact H
  clear H
  have H := H1
  clear H1
  obtain rfl := Option.some.inj H
  go_enter Try.func47, Try.ntmps47
  go_wp2_with (first | ((with_reducible refine gate_callee (f := 33) rfl ?_); refine zg_ (some 6) Try.func33 #[.slice A0 l0.length c0] (h := ?_); (with_reducible refine (carouselref5_Good.calls k _ _ l0 false _ ?side1 ?side2 A2.out).mono ?_); (case side1 => repeat (first | exact HR0.out | (with_reducible refine Kd.C_alloc ?_ _) | (with_reducible refine Kd.C_drewN ?_ _) | (with_reducible refine Kd.C_drew ?_))); (case side2 => exact HC0.out); rintro e w' ⟨rfl, ⟨nd, rfl⟩⟩; refine ⟨_, rfl, ?_⟩))
  go_ret
  exact ⟨by first | rfl | (simp; done) | (simp [*]; done), by repeat (first | exact Drawn0.refl _ | apply Drawn0.step)⟩
 subst c3
 have H1 : (carouselref5_Size.l0 k l0 1 0) = some r := by rw [if_pos rfl] at H; exact H
 clear H
 have H := H1
 clear H1
 have H' := Aside0.mk H
 clear H
 go_enter Try.func47, Try.ntmps47
 go_wp2_with (first | ((with_reducible refine gate_callee (f := 33) rfl ?_); refine zg_ (some 6) Try.func33 #[.slice A0 l0.length c0] (h := ?_); (with_reducible refine (carouselref5_Good.calls k _ _ l0 true _ ?side1 ?side2 A2.out).mono ?_); (case side1 => repeat (first | exact HR0.out | (with_reducible refine Kd.C_alloc ?_ _) | (with_reducible refine Kd.C_drewN ?_ _) | (with_reducible refine Kd.C_drew ?_))); (case side2 => exact HC0.out); rintro e w' ⟨rfl, ⟨nd, rfl⟩⟩; refine ⟨_, rfl, ?_⟩))
 go_loopg [3, 4] k (fun kq v3 v4 w' => ∃ (x3_1 : Int) (x4_1 : Int), v3 = .int .i64 x3_1 ∧ v4 = .int .i64 x4_1 ∧ Aside0 (carouselref5_Size.l0 kq l0 x3_1 x4_1 = some r) ∧ Aside0 (kq ≤ k) ∧ Drawn0 w w')
 case atStart => exact ⟨(1), (0), z1_, z1_, H', ⟨Nat.le_refl _⟩, by repeat (first | exact Drawn0.refl _ | apply Drawn0.step)⟩
 case round =>
  clear H'
  try clear p2
  try clear c3
  obtain ⟨x3_1, x4_1, rfl, rfl, HA, HK1, ⟨m1, rfl⟩⟩ := hrel
  cases gk with
  | zero => exact absurd HA.out (by simp [carouselref5_Size.l0])
  | succ k1 =>
   have H := HA.out
   clear HA
   simp only [carouselref5_Size.l0] at H
   by_cases c4 : x4_1 < (l0.length : Int)
   rotate_left
   ·rw [if_neg c4] at H
    have c4b0 : decide (x4_1 < (l0.length : Int)) = false := decide_eq_false c4
    clear c4
    obtain rfl := Option.some.inj H
    go_wp2
    go_ret
    exact ⟨by first | rfl | (simp; done) | (simp [*]; done), by repeat (first | exact Drawn0.refl _ | apply Drawn0.step)⟩
   rw [if_pos c4] at H
   have c4b0 : decide (x4_1 < (l0.length : Int)) = true := decide_eq_true c4
   clear c4
   by_cases c5 : 0 ≤ x4_1
   rotate_left
   ·rw [if_neg c5] at H
    exact absurd H (by simp)
   rw [if_pos c5] at H
   have c5b0 : decide (0 ≤ x4_1) = true := decide_eq_true c5
   clear c5
   have H' := Aside0.mk H
   clear H
   have p280 : 0 ≤ (x4_1 : Int) := of_decide_eq_true (by first | (with_reducible assumption) | assumption)
   have q280 : x4_1 < (l0.length : Int) := of_decide_eq_true (by first | (with_reducible assumption) | assumption)
   obtain ⟨ad280, e280, hx280_0⟩ := Kd.at_int HR0.out x4_1 p280 q280
   cases e280
   replace p280 := eq_true p280
   replace q280 := eq_true q280
   go_wp2
   go_roundg k1
   case measure => have := HK1.out; omega
   case rel => exact ⟨(wrap64 (x3_1 * (rd l0 x4_1))), (wrap64 (x4_1 + 1)), z1_, z1_, H', ⟨by have := HK1.out; omega⟩, by repeat (first | exact Drawn0.refl _ | apply Drawn0.step)⟩

/-! ### carouselref5_Is: function 32 -/
def carouselref5_Is.f (k : Nat) (l0_0 : List Int) (l0_1 : List Int) : Option (Bool) := (carouselref5_Good.f k l0_0).bind fun t282 => (if t282 = true then ((carouselref5_Size.f k l0_0).bind fun t283 => (some ((l0_1.length : Int) == t283))) else (some false))
theorem carouselref5_Is.mono : ∀ a0 a1 k, LeO (carouselref5_Is.f k a0 a1) (carouselref5_Is.f (k + 1) a0 a1) := by
 intro a0 a1 k
 unfold carouselref5_Is.f
 repeat' first
   | (with_reducible exact carouselref5_Good.mono _ _)
   | (with_reducible exact carouselref5_Size.mono _ _)
   | (with_reducible exact LeO.refl _)
   | (with_reducible exact LeO.none _)
   | (with_reducible refine LeO.ite ?_ ?_)
   | (with_reducible refine LeO.bind ?_ (fun _ => ?_))
   | exact carouselref5_Good.mono _ _
   | exact carouselref5_Size.mono _ _
   | exact LeO.none _
   | refine LeO.ite ?_ ?_
   | refine LeO.bind ?_ (fun _ => ?_)
set_option maxHeartbeats 8000000 in
set_option maxRecDepth 100000 in
theorem carouselref5_Is.calls (k : Nat) (A0_0 : Option Addr) (c0_0 : Nat) (l0_0 : List Int) (A0_1 : Option Addr) (c0_1 : Nat) (l0_1 : List Int) (r : Bool) (w : World) (hr0_0 : Kd.C (Kd.int .i64) w A0_0 l0_0.length l0_0) (hc0_0 : l0_0.length ≤ c0_0) (hr0_1 : Kd.C (Kd.int .i64) w A0_1 l0_1.length l0_1) (hc0_1 : l0_1.length ≤ c0_1) (h : carouselref5_Is.f k l0_0 l0_1 = some r) :
  Calls Try.prog 32 #[.agg #[.slice A0_0 l0_0.length c0_0, .slice A0_1 l0_1.length c0_1]] w fun e w' => e = .returned (.bool r) ∧ Below w.heap.size w w' := by
 have hu25 := Try.underlying25
 have HR0_0 := Aside0.mk hr0_0
 have HC0_0 := Aside0.mk hc0_0
 clear hr0_0 hc0_0
 have HR0_1 := Aside0.mk hr0_1
 have HC0_1 := Aside0.mk hc0_1
 clear hr0_1 hc0_1
 have HB := Aside0.mk (Below.refl w.heap.size w)
 have H : ((carouselref5_Good.f k l0_0).bind fun t282 => (if t282 = true then ((carouselref5_Size.f k l0_0).bind fun t283 => (some ((l0_1.length : Int) == t283))) else (some false))) = some r := h
 clear h
 replace H := Option.bind_eq_some_iff.mp H
 obtain ⟨t282, A20, H⟩ := H
 replace H : (if t282 = true then ((carouselref5_Size.f k l0_0).bind fun t283 => (some ((l0_1.length : Int) == t283))) else (some false)) = some r := H
 have A2 := Aside0.mk A20
 clear A20
 by_cases c3 : t282 = true
 rotate_left
 ·replace c3 := Bool.eq_false_iff.mpr c3
  subst c3
  have H1 : (some false) = some r := by rw [if_neg (show ¬ (false = true) by decide)] at H; exact H
  clear H
  have H := H1
  clear H1
  obtain rfl := Option.some.inj H
  go_enter Try.func32, Try.ntmps32
  go_wp2_with (first | ((with_reducible refine gate_dst (N := 1) rfl ?_); (try (refine gate_guard (by rfl) ?_; dsimp only)); refine box_event ?hg (N := 1) ?hd (cs := #[.slice A0_0 l0_0.length c0_0, .slice A0_1 l0_1.length c0_1]) (t := 25) ?hr ?_; (case hd => rfl); (case hg => rfl); (case hr => first | (go_simp; done) | (go_simp; rfl)); intro gb281 hg w7 hbox hb; have BK281 := Aside0.mk (hbox); have GW281 := Aside0.mk (zs_ hg (zw0_ HB)); have GE281 := Aside0.mk (zs_ hg (zw0_ HB)); replace HB := Aside0.mk (below_step (zw0_ HB) hb); clear hb hbox hg; have hcz8_0 := zx_ (v := .slice A0_0 l0_0.length c0_0) BK281 0; have hcz8_1 := zx_ (v := .slice A0_1 l0_1.length c0_1) BK281 1; have hfz8_0 := blk_frozen BK281.out 0; have hfz8_1 := blk_frozen BK281.out 1) | (go_at_call 33; (with_reducible refine (carouselref5_Good.calls k _ _ l0_0 false _ ?side1 ?side2 A2.out).mono ?_); (case side1 => exact zk_ (Kd.C_below HR0_0.out HB.out)); (case side2 => exact HC0_0.out); rintro e w' ⟨rfl, ⟨nd, rfl⟩⟩; (try first | exact ⟨rfl, _, World.drewN_drewN _ _ _⟩ | exact ⟨rfl, _, Eq.trans (World.drewN_drewN _ _ _) (congrArg (World.drewN _) (Nat.add_assoc _ _ _))⟩)))
  repeat (go_quiet (first | ((with_reducible refine gate_dst (N := 1) rfl ?_); (try (refine gate_guard (by rfl) ?_; dsimp only)); refine box_event ?hg (N := 1) ?hd (cs := #[.slice A0_0 l0_0.length c0_0, .slice A0_1 l0_1.length c0_1]) (t := 25) ?hr ?_; (case hd => rfl); (case hg => rfl); (case hr => first | (go_simp; done) | (go_simp; rfl)); intro gb281 hg w7 hbox hb; have BK281 := Aside0.mk (hbox); have GW281 := Aside0.mk (zs_ hg (zw0_ HB)); have GE281 := Aside0.mk (zs_ hg (zw0_ HB)); replace HB := Aside0.mk (below_step (zw0_ HB) hb); clear hb hbox hg; have hcz8_0 := zx_ (v := .slice A0_0 l0_0.length c0_0) BK281 0; have hcz8_1 := zx_ (v := .slice A0_1 l0_1.length c0_1) BK281 1; have hfz8_0 := blk_frozen BK281.out 0; have hfz8_1 := blk_frozen BK281.out 1) | (go_at_call 33; (with_reducible refine (carouselref5_Good.calls k _ _ l0_0 false _ ?side1 ?side2 A2.out).mono ?_); (case side1 => exact zk_ (Kd.C_below HR0_0.out HB.out)); (case side2 => exact HC0_0.out); rintro e w' ⟨rfl, ⟨nd, rfl⟩⟩; (try first | exact ⟨rfl, _, World.drewN_drewN _ _ _⟩ | exact ⟨rfl, _, Eq.trans (World.drewN_drewN _ _ _) (congrArg (World.drewN _) (Nat.add_assoc _ _ _))⟩))); try go_wp2_with (first | ((with_reducible refine gate_dst (N := 1) rfl ?_); (try (refine gate_guard (by rfl) ?_; dsimp only)); refine box_event ?hg (N := 1) ?hd (cs := #[.slice A0_0 l0_0.length c0_0, .slice A0_1 l0_1.length c0_1]) (t := 25) ?hr ?_; (case hd => rfl); (case hg => rfl); (case hr => first | (go_simp; done) | (go_simp; rfl)); intro gb281 hg w7 hbox hb; have BK281 := Aside0.mk (hbox); have GW281 := Aside0.mk (zs_ hg (zw0_ HB)); have GE281 := Aside0.mk (zs_ hg (zw0_ HB)); replace HB := Aside0.mk (below_step (zw0_ HB) hb); clear hb hbox hg; have hcz8_0 := zx_ (v := .slice A0_0 l0_0.length c0_0) BK281 0; have hcz8_1 := zx_ (v := .slice A0_1 l0_1.length c0_1) BK281 1; have hfz8_0 := blk_frozen BK281.out 0; have hfz8_1 := blk_frozen BK281.out 1) | (go_at_call 33; (with_reducible refine (carouselref5_Good.calls k _ _ l0_0 false _ ?side1 ?side2 A2.out).mono ?_); (case side1 => exact zk_ (Kd.C_below HR0_0.out HB.out)); (case side2 => exact HC0_0.out); rintro e w' ⟨rfl, ⟨nd, rfl⟩⟩; (try first | exact ⟨rfl, _, World.drewN_drewN _ _ _⟩ | exact ⟨rfl, _, Eq.trans (World.drewN_drewN _ _ _) (congrArg (World.drewN _) (Nat.add_assoc _ _ _))⟩))))
  go_ret
  exact ⟨z0_, zw1_ HB GE281⟩
 subst c3
 have H1 : ((carouselref5_Size.f k l0_0).bind fun t283 => (some ((l0_1.length : Int) == t283))) = some r := by rw [if_pos rfl] at H; exact H
 clear H
 have H := H1
 clear H1
 replace H := Option.bind_eq_some_iff.mp H
 obtain ⟨t283, A40, H⟩ := H
 replace H : (some ((l0_1.length : Int) == t283)) = some r := H
 have A4 := Aside0.mk A40
 clear A40
 obtain rfl := Option.some.inj H
 go_enter Try.func32, Try.ntmps32
 go_wp2_with (first | ((with_reducible refine gate_dst (N := 1) rfl ?_); (try (refine gate_guard (by rfl) ?_; dsimp only)); refine box_event ?hg (N := 1) ?hd (cs := #[.slice A0_0 l0_0.length c0_0, .slice A0_1 l0_1.length c0_1]) (t := 25) ?hr ?_; (case hd => rfl); (case hg => rfl); (case hr => first | (go_simp; done) | (go_simp; rfl)); intro gb281 hg w5 hbox hb; have BK281 := Aside0.mk (hbox); have GW281 := Aside0.mk (zs_ hg (zw0_ HB)); have GE281 := Aside0.mk (zs_ hg (zw0_ HB)); replace HB := Aside0.mk (below_step (zw0_ HB) hb); clear hb hbox hg; have hcz6_0 := zx_ (v := .slice A0_0 l0_0.length c0_0) BK281 0; have hcz6_1 := zx_ (v := .slice A0_1 l0_1.length c0_1) BK281 1; have hfz6_0 := blk_frozen BK281.out 0; have hfz6_1 := blk_frozen BK281.out 1) | (go_at_call 33; (with_reducible refine (carouselref5_Good.calls k _ _ l0_0 true _ ?side1 ?side2 A2.out).mono ?_); (case side1 => exact zk_ (Kd.C_below HR0_0.out HB.out)); (case side2 => exact HC0_0.out); rintro e w' ⟨rfl, ⟨nd, rfl⟩⟩; (try first | exact ⟨rfl, _, World.drewN_drewN _ _ _⟩ | exact ⟨rfl, _, Eq.trans (World.drewN_drewN _ _ _) (congrArg (World.drewN _) (Nat.add_assoc _ _ _))⟩)) | (go_at_call 47; (with_reducible refine (carouselref5_Size.calls k _ _ l0_0 t283 _ ?side1 ?side2 A4.out).mono ?_); (case side1 => repeat (first | exact (Kd.C_below HR0_0.out (zw1_ HB GE281)) | (with_reducible refine Kd.C_alloc ?_ _) | (with_reducible refine Kd.C_drewN ?_ _) | (with_reducible refine Kd.C_drew ?_))); (case side2 => exact HC0_0.out); rintro e w' ⟨rfl, ⟨nd, rfl⟩⟩; (try first | exact ⟨rfl, _, World.drewN_drewN _ _ _⟩ | exact ⟨rfl, _, Eq.trans (World.drewN_drewN _ _ _) (congrArg (World.drewN _) (Nat.add_assoc _ _ _))⟩)))
 repeat (go_quiet (first | ((with_reducible refine gate_dst (N := 1) rfl ?_); (try (refine gate_guard (by rfl) ?_; dsimp only)); refine box_event ?hg (N := 1) ?hd (cs := #[.slice A0_0 l0_0.length c0_0, .slice A0_1 l0_1.length c0_1]) (t := 25) ?hr ?_; (case hd => rfl); (case hg => rfl); (case hr => first | (go_simp; done) | (go_simp; rfl)); intro gb281 hg w5 hbox hb; have BK281 := Aside0.mk (hbox); have GW281 := Aside0.mk (zs_ hg (zw0_ HB)); have GE281 := Aside0.mk (zs_ hg (zw0_ HB)); replace HB := Aside0.mk (below_step (zw0_ HB) hb); clear hb hbox hg; have hcz6_0 := zx_ (v := .slice A0_0 l0_0.length c0_0) BK281 0; have hcz6_1 := zx_ (v := .slice A0_1 l0_1.length c0_1) BK281 1; have hfz6_0 := blk_frozen BK281.out 0; have hfz6_1 := blk_frozen BK281.out 1) | (go_at_call 33; (with_reducible refine (carouselref5_Good.calls k _ _ l0_0 true _ ?side1 ?side2 A2.out).mono ?_); (case side1 => exact zk_ (Kd.C_below HR0_0.out HB.out)); (case side2 => exact HC0_0.out); rintro e w' ⟨rfl, ⟨nd, rfl⟩⟩; (try first | exact ⟨rfl, _, World.drewN_drewN _ _ _⟩ | exact ⟨rfl, _, Eq.trans (World.drewN_drewN _ _ _) (congrArg (World.drewN _) (Nat.add_assoc _ _ _))⟩)) | (go_at_call 47; (with_reducible refine (carouselref5_Size.calls k _ _ l0_0 t283 _ ?side1 ?side2 A4.out).mono ?_); (case side1 => repeat (first | exact (Kd.C_below HR0_0.out (zw1_ HB GE281)) | (with_reducible refine Kd.C_alloc ?_ _) | (with_reducible refine Kd.C_drewN ?_ _) | (with_reducible refine Kd.C_drew ?_))); (case side2 => exact HC0_0.out); rintro e w' ⟨rfl, ⟨nd, rfl⟩⟩; (try first | exact ⟨rfl, _, World.drewN_drewN _ _ _⟩ | exact ⟨rfl, _, Eq.trans (World.drewN_drewN _ _ _) (congrArg (World.drewN _) (Nat.add_assoc _ _ _))⟩))); try go_wp2_with (first | ((with_reducible refine gate_dst (N := 1) rfl ?_); (try (refine gate_guard (by rfl) ?_; dsimp only)); refine box_event ?hg (N := 1) ?hd (cs := #[.slice A0_0 l0_0.length c0_0, .slice A0_1 l0_1.length c0_1]) (t := 25) ?hr ?_; (case hd => rfl); (case hg => rfl); (case hr => first | (go_simp; done) | (go_simp; rfl)); intro gb281 hg w5 hbox hb; have BK281 := Aside0.mk (hbox); have GW281 := Aside0.mk (zs_ hg (zw0_ HB)); have GE281 := Aside0.mk (zs_ hg (zw0_ HB)); replace HB := Aside0.mk (below_step (zw0_ HB) hb); clear hb hbox hg; have hcz6_0 := zx_ (v := .slice A0_0 l0_0.length c0_0) BK281 0; have hcz6_1 := zx_ (v := .slice A0_1 l0_1.length c0_1) BK281 1; have hfz6_0 := blk_frozen BK281.out 0; have hfz6_1 := blk_frozen BK281.out 1) | (go_at_call 33; (with_reducible refine (carouselref5_Good.calls k _ _ l0_0 true _ ?side1 ?side2 A2.out).mono ?_); (case side1 => exact zk_ (Kd.C_below HR0_0.out HB.out)); (case side2 => exact HC0_0.out); rintro e w' ⟨rfl, ⟨nd, rfl⟩⟩; (try first | exact ⟨rfl, _, World.drewN_drewN _ _ _⟩ | exact ⟨rfl, _, Eq.trans (World.drewN_drewN _ _ _) (congrArg (World.drewN _) (Nat.add_assoc _ _ _))⟩)) | (go_at_call 47; (with_reducible refine (carouselref5_Size.calls k _ _ l0_0 t283 _ ?side1 ?side2 A4.out).mono ?_); (case side1 => repeat (first | exact (Kd.C_below HR0_0.out (zw1_ HB GE281)) | (with_reducible refine Kd.C_alloc ?_ _) | (with_reducible refine Kd.C_drewN ?_ _) | (with_reducible refine Kd.C_drew ?_))); (case side2 => exact HC0_0.out); rintro e w' ⟨rfl, ⟨nd, rfl⟩⟩; (try first | exact ⟨rfl, _, World.drewN_drewN _ _ _⟩ | exact ⟨rfl, _, Eq.trans (World.drewN_drewN _ _ _) (congrArg (World.drewN _) (Nat.add_assoc _ _ _))⟩))))
 go_ret
 exact ⟨z0_, zw1_ HB GE281⟩

/-! ### carouselref5_New: function 34 -/
def carouselref5_New.l0 : Nat → Int → Int → List Int → List Int → Option (List Int × List Int)
 | 0, _, _, _, _ => none
 | k + 1, x1, x6, x296000, x296001 => if x6 < (x296001.length : Int) then (if 0 ≤ x6 then (carouselref5_New.l0 k x1 (wrap64 (x6 + 1)) x296000 (x296001.set (x6 : Int).toNat x1)) else (none)) else (some (x296000, x296001))
def carouselref5_New.f (k : Nat) (l0 : List Int) (a1 : Int) : Option (List Int × List Int) := (some (([] : List Int) : List Int)).bind fun y285 => (if y285.length + l0.length < 17592186044416 then ((carouselref5_Size.f k l0).bind fun t291 => (if 0 ≤ t291 then (if (t291 : Int).toNat ≤ 35184372088832 then (carouselref5_New.l0 k a1 0 (y285 ++ l0) (List.replicate (t291 : Int).toNat 0)) else (none)) else (none))) else (none))
theorem carouselref5_New.mono_l : ∀ k, (∀ y0 y1 y2 y3, LeO (carouselref5_New.l0 k y0 y1 y2 y3) (carouselref5_New.l0 (k + 1) y0 y1 y2 y3))
 | 0 => fun _ _ _ _ r h => by simp [carouselref5_New.l0] at h
 | k + 1 => by
  have ih0 := carouselref5_New.mono_l k
  ·intro y0 y1 y2 y3
   unfold carouselref5_New.l0
   repeat' first
   | (with_reducible exact ih0 _ _ _ _)
   | (with_reducible exact LeO.refl _)
   | (with_reducible exact LeO.none _)
   | (with_reducible refine LeO.ite ?_ ?_)
   | (with_reducible refine LeO.bind ?_ (fun _ => ?_))
   | exact ih0 _ _ _ _
   | exact LeO.none _
   | refine LeO.ite ?_ ?_
   | refine LeO.bind ?_ (fun _ => ?_)
theorem carouselref5_New.mono : ∀ a0 a1 k, LeO (carouselref5_New.f k a0 a1) (carouselref5_New.f (k + 1) a0 a1) := by
 intro a0 a1 k
 have ih0 := carouselref5_New.mono_l k
 unfold carouselref5_New.f
 repeat' first
   | (with_reducible exact ih0 _ _ _ _)
   | (with_reducible exact carouselref5_Size.mono _ _)
   | (with_reducible exact LeO.refl _)
   | (with_reducible exact LeO.none _)
   | (with_reducible refine LeO.ite ?_ ?_)
   | (with_reducible refine LeO.bind ?_ (fun _ => ?_))
   | exact ih0 _ _ _ _
   | exact carouselref5_Size.mono _ _
   | exact LeO.none _
   | refine LeO.ite ?_ ?_
   | refine LeO.bind ?_ (fun _ => ?_)
set_option maxHeartbeats 8000000 in
set_option maxRecDepth 100000 in
theorem carouselref5_New.calls (k : Nat) (A0 : Option Addr) (c0 : Nat) (l0 : List Int) (a1 : Int) (r1 : List Int) (r2 : List Int) (w : World) (hr0 : Kd.C (Kd.int .i64) w A0 l0.length l0) (hc0 : l0.length ≤ c0) (h : carouselref5_New.f k l0 a1 = some (r1, r2)) :
  Calls Try.prog 34 #[.slice A0 l0.length c0, .int .i64 a1] w fun e w' => ∃ v0_ v1_ : Value, e = .returned (.agg #[v0_, v1_]) ∧ Kd.R (Kd.int .i64) 3 w' w.heap.size (fun _ => True) v0_ r1 ∧ Kd.R (Kd.int .i64) 33 w' w.heap.size (fun _ => True) v1_ r2 ∧ Below w.heap.size w w' := by
 have hu25 := Try.underlying25
 have HR0 := Aside0.mk hr0
 have HC0 := Aside0.mk hc0
 clear hr0 hc0
 have HB := Aside0.mk (Below.refl w.heap.size w)
 have H : ((some (([] : List Int) : List Int)).bind fun y285 => (if y285.length + l0.length < 17592186044416 then ((carouselref5_Size.f k l0).bind fun t291 => (if 0 ≤ t291 then (if (t291 : Int).toNat ≤ 35184372088832 then (carouselref5_New.l0 k a1 0 (y285 ++ l0) (List.replicate (t291 : Int).toNat 0)) else (none)) else (none))) else (none))) = some (r1, r2) := h
 clear h
 obtain ⟨y285, hy285⟩ : ∃ y_ : List Int, y_ = (([] : List Int)) := ⟨_, rfl⟩
 replace H : (if y285.length + l0.length < 17592186044416 then ((carouselref5_Size.f k l0).bind fun t291 => (if 0 ≤ t291 then (if (t291 : Int).toNat ≤ 35184372088832 then (carouselref5_New.l0 k a1 0 (y285 ++ l0) (List.replicate (t291 : Int).toNat 0)) else (none)) else (none))) else (none)) = some (r1, r2) := by first | (rw [hy285]; with_reducible exact H) | (have H2_ := (Option.bind_some _ _).symm.trans H; rw [hy285]; with_reducible exact H2_) | (have H2_ := (Option.bind_some _ _).symm.trans H; with_reducible exact H2_) | with_reducible exact H | (rw [hy285]; exact H) | exact H
 have Ny285 := Aside0.mk hy285
 clear hy285
 by_cases c3 : y285.length + l0.length < 17592186044416
 rotate_left
 ·rw [if_neg c3] at H
  exact absurd H (by simp)
 rw [if_pos c3] at H
 have LMc3 := Aside0.mk c3
 clear c3
 obtain ⟨y288, hy288⟩ : ∃ y_ : List Int, y_ = (y285 ++ l0) := ⟨_, rfl⟩
 replace H : ((carouselref5_Size.f k l0).bind fun t291 => (if 0 ≤ t291 then (if (t291 : Int).toNat ≤ 35184372088832 then (carouselref5_New.l0 k a1 0 y288 (List.replicate (t291 : Int).toNat 0)) else (none)) else (none))) = some (r1, r2) := by first | (rw [hy288]; with_reducible exact H) | (have H2_ := (Option.bind_some _ _).symm.trans H; rw [hy288]; with_reducible exact H2_) | (have H2_ := (Option.bind_some _ _).symm.trans H; with_reducible exact H2_) | with_reducible exact H | (rw [hy288]; exact H) | exact H
 have Ny288 := Aside0.mk hy288
 clear hy288
 replace H := Option.bind_eq_some_iff.mp H
 obtain ⟨t291, A40, H⟩ := H
 (try dsimp only at H)
 have A4 := Aside0.mk A40
 clear A40
 by_cases c5 : 0 ≤ t291
 rotate_left
 ·rw [if_neg c5] at H
  exact absurd H (by simp)
 rw [if_pos c5] at H
 have c5b0 := eq_true c5
 have c5b1 : decide (0 ≤ t291) = true := decide_eq_true c5
 clear c5
 by_cases c6 : (t291 : Int).toNat ≤ 35184372088832
 rotate_left
 ·rw [if_neg c6] at H
  exact absurd H (by simp)
 rw [if_pos c6] at H
 have c6b0 := eq_true c6
 have c6b1 : decide ((t291 : Int).toNat ≤ 35184372088832) = true := decide_eq_true c6
 clear c6
 obtain ⟨y292, hy292⟩ : ∃ y_ : List Int, y_ = (List.replicate (t291 : Int).toNat 0) := ⟨_, rfl⟩
 replace H : (carouselref5_New.l0 k a1 0 y288 y292) = some (r1, r2) := by first | (rw [hy292]; with_reducible exact H) | (have H2_ := (Option.bind_some _ _).symm.trans H; rw [hy292]; with_reducible exact H2_) | (have H2_ := (Option.bind_some _ _).symm.trans H; with_reducible exact H2_) | with_reducible exact H | (rw [hy292]; exact H) | exact H
 have Ny292 := Aside0.mk hy292
 clear hy292
 have H' := Aside0.mk H
 clear H
 go_enter Try.func34, Try.ntmps34
 go_wp2_with (first | ((with_reducible refine gate_dst (N := 4) rfl ?_); refine box_event ?hg (N := 4) ?hd (cs := #[.slice none 0 0, .slice none 0 0]) (t := 25) ?hr ?_; (case hd => rfl); (case hg => rfl); (case hr => first | (go_simp; done) | (go_simp; rfl)); intro gb284 hg w7 hbox hb; have BK284 := Aside0.mk (hbox); have GW284 := Aside0.mk (zs_ hg (zw0_ HB)); have GE284 := Aside0.mk (zs_ hg (zw0_ HB)); replace HB := Aside0.mk (below_step (zw0_ HB) hb); clear hb hbox hg) | ((with_reducible refine gate_dst (N := 7) rfl ?_); refine Kd.R_lit (Kd.int .i64) _ 3 ?hg (N := 7) ?hd (xs := ([] : List Int)) (inner := []) (ok := fun _ => True) (okp := fun _ => True) ?hr ?hp (fun _ hk => hk) trivial (Below.refl _ _) (Nat.le_refl _) (by simp) ?_; (case hd => rfl); (case hg => rfl); (case hr => first | (go_simp; done) | (go_simp; rfl)); (case hp => exact (Reps.none _ _)); intro v286 w8 ho9 hb hg_ hnew_; clear hg_ hnew_; (first | rw [← Ny285.out] at ho9 | (simp only [Int.reduceToNat] at ho9; rw [← Ny285.out] at ho9)); have HO287 := Aside0.mk (Kd.R_lower ho9 (below_size (zw1_ HB GE284))); replace BK284 := za_ BK284 hb; replace HB := Aside0.mk (below_step (zw1_ HB GE284) hb); clear hb ho9) | ((with_reducible refine gate_builtin (b := .append) (xs := #[.tmp 7, .tmp 8]) rfl ?_); at_builtin; refine Kd.R_append_rows (Kd.int .i64) (w0 := w) w.heap.size rfl (.tmp 7) (.tmp 8) 22 3 (.int .i64 0) 8 rfl Try.underlying22 info3 rfl (by decide) (by omega) v286 y285 l0 _ _ _ (fun _ => True) (fun _ => False) rfl rfl ?aO ?aR (fun _ _ h => h) (fun _ h => h.elim) ?aF ?aB ?aS ?aL ?_; (case aR => exact zk_ (Kd.C_below HR0.out HB.out)); (case aB => exact (zw1_ HB GE284)); (case aF => exact (fun _ _ => trivial)); (case aO => exact (zr_ HO287.out)); (case aS => exact (below_size (zw1_ HB GE284))); (case aL => have := LMc3.out; omega); intro v289 w10 ho hb hg hat; rw [← Ny288.out] at ho; replace BK284 := Aside0.mk (zh_ BK284 hg (Kd.R_ne HO287.out BK284.out (by decide))); replace HB := Aside0.mk (hb); have HO290 := Aside0.mk (ho); clear HO287; clear ho hb hg hat) | ((with_reducible refine gate_callee (f := 47) rfl ?_); refine zg_ (some 11) Try.func47 #[.slice A0 l0.length c0] (h := ?_); (with_reducible refine (carouselref5_Size.calls k _ _ l0 t291 _ ?side1 ?side2 A4.out).mono ?_); (case side1 => exact zk_ (Kd.C_below HR0.out HB.out)); (case side2 => exact HC0.out); rintro e w' ⟨rfl, ⟨nd, rfl⟩⟩; refine ⟨_, rfl, ?_⟩; (try (rw [drewN_self w10]; generalize hq_ : World.drewN w10 _ = w10; have n0_ : Aside0 (Kd.R (Kd.int .i64) 3 w10 w.heap.size (fun _ => True) v289 y288) := ⟨by rw [← hq_]; exact (zr_ HO290.out)⟩; have n1_ : Aside0 (w10.heap[gb284]? = some (.cells #[.slice none 0 0, .slice none 0 0] 25 (0, 0))) := ⟨by rw [← hq_]; exact (zb_ BK284)⟩; have n2_ : Aside0 (Below w.heap.size w w10) := ⟨by rw [← hq_]; exact (zw1_ HB GE284)⟩; clear HO290 BK284 HB hq_; have HO290 := n0_; have BK284 := n1_; have HB := n2_; clear n0_ n1_ n2_))) | ((with_reducible refine gate_dst (N := 12) rfl ?_); refine Kd.R_make (Kd.int .i64) _ 33 rfl (N := 12) rfl 23 _ _ rfl t291 rfl rfl Try.underlying23 (.int .i64 0) 8 info33 rfl (by decide) (by omega) 0 (ok := fun _ => True) (okp := fun _ => True) rfl (fun _ hk => hk) trivial (of_decide_eq_true (by first | (with_reducible assumption) | assumption)) (Nat.le_trans (Nat.mul_le_mul_right _ (of_decide_eq_true (by first | (with_reducible assumption) | assumption) : t291.toNat ≤ 35184372088832)) (by omega)) (Below.refl _ _) (Nat.le_refl _) ?_; intro v293 w11 ho12 hb hg_ hnew_; clear hg_ hnew_; (first | rw [← Ny292.out] at ho12 | (simp only [Int.reduceToNat] at ho12; rw [← Ny292.out] at ho12)); replace HO290 := zy_ HO290 hb; have HO294 := Aside0.mk (Kd.R_lower ho12 (below_size (zw1_ HB GE284))); replace BK284 := za_ BK284 hb; replace HB := Aside0.mk (below_step (zw1_ HB GE284) hb); clear hb ho12; obtain ⟨Ao13, co13, eo13⟩ := Kd.R_slice HO294.out; subst eo13; obtain ⟨Ao14, co14, eo14⟩ := Kd.R_slice HO290.out; subst eo14) | ((with_reducible refine gate_dst (N := 5) rfl ?_); refine box_event ?hg (N := 5) ?hd (cs := #[.slice none 0 0, .slice none 0 0]) (t := 25) ?hr ?_; (case hd => rfl); (case hg => rfl); (case hr => first | (go_simp; done) | (go_simp; rfl)); intro gb295 hg w15 hbox hb; replace HO290 := zy_ HO290 hb; replace HO294 := zy_ HO294 hb; have BK295 := Aside0.mk (hbox); have GW295 := Aside0.mk (zs_ hg (zw1_ HB GE284)); have GE295 := Aside0.mk (zs_ hg (zw1_ HB GE284)); replace HB := Aside0.mk (below_step (zw1_ HB GE284) hb); have NB284_295 := Aside0.mk (zn_ hg BK284); have NB295_284 := Aside0.mk (zm_ hg BK284); replace BK284 := za_ BK284 hb; clear hb hbox hg; have hnb16 := NB295_284.out; have hnc16 := NB284_295.out; have hcz17_0 := zx_ (v := .slice none 0 0) BK295 0; have hcz17_1 := zx_ (v := .slice none 0 0) BK295 1; have hfz17_0 := blk_frozen BK295.out 0; have hfz17_1 := blk_frozen BK295.out 1))
 go_loopg [6] k (fun kq v6 w' => ∃ (x6_1 : Int) (x296001_1 : List Int) (u296001 : Value), v6 = .int .i64 x6_1 ∧ Aside0 (carouselref5_New.l0 kq a1 x6_1 y288 x296001_1 = some (r1, r2)) ∧ Aside0 (kq ≤ k) ∧ Aside0 (Kd.R (Kd.int .i64) 3 w' w.heap.size (fun _ => True) (.slice Ao14 y288.length co14) y288) ∧ Aside0 (Kd.R (Kd.int .i64) 33 w' w.heap.size (fun _ => True) u296001 x296001_1) ∧ Aside0 (w'.heap[gb284]? = some (.cells #[(.slice none 0 0), (.slice none 0 0)] 25 (0, 0))) ∧ Aside0 (w'.heap[gb295]? = some (.cells #[(.slice Ao14 y288.length co14), u296001] 25 (0, 0))) ∧ Aside0 (Below w.heap.size w w'))
 case atStart => exact ⟨(0), (y292), (.slice Ao13 y292.length co13), z1_, H', ⟨Nat.le_refl _⟩, ⟨zr_ (Kd.R_mono (Kd.R_far (p := ⟨gb295, 1, none⟩) (Kd.R_far (p := ⟨gb295, 0, none⟩) (Kd.R_types HO290.out BK295.out (by decide)) (fun _ hk => hk.2) (.slice Ao14 y288.length co14)) (fun _ hk => hk.2) (.slice Ao13 y292.length co13)) (fun _ hk => trivial))⟩, ⟨zr_ (Kd.R_mono (Kd.R_far (p := ⟨gb295, 1, none⟩) (Kd.R_far (p := ⟨gb295, 0, none⟩) (Kd.R_types HO294.out BK295.out (by decide)) (fun _ hk => hk.2) (.slice Ao14 y288.length co14)) (fun _ hk => hk.2) (.slice Ao13 y292.length co13)) (fun _ hk => trivial))⟩, ⟨zv1_ BK284 NB284_295⟩, ⟨zo2_ BK295⟩, ⟨zw2_ HB GE284 GE295⟩⟩
 case round =>
  clear H'
  try clear c1
  try clear p2
  try clear c3
  try clear c4
  try clear c5
  try clear c5b0
  try clear c5b1
  try clear c6
  try clear c6b0
  try clear c6b1
  try clear c16
  try clear hcz17_0
  try clear hcz17_1
  try clear hfz17_0
  try clear hfz17_1
  obtain ⟨x6_1, x296001_1, u296001, rfl, HA, HK1, HO_296000, HO_296001, BK284, BK295, HB⟩ := hrel
  cases gk with
  | zero => exact absurd HA.out (by simp [carouselref5_New.l0])
  | succ k1 =>
   have H := HA.out
   clear HA
   simp only [carouselref5_New.l0] at H
   by_cases c18 : x6_1 < (x296001_1.length : Int)
   rotate_left
   ·rw [if_neg c18] at H
    have c18b0 : decide (x6_1 < (x296001_1.length : Int)) = false := decide_eq_false c18
    clear c18
    simp only [Option.some.injEq, Prod.mk.injEq] at H
    obtain ⟨rfl, rfl⟩ := H
    have hnb26 := NB295_284.out
    have hnc26 := NB284_295.out
    have hcz27_0 := zx_ (v := .slice Ao14 y288.length co14) BK295 0
    have hcz27_1 := zx_ (v := u296001) BK295 1
    have hfz27_0 := blk_frozen BK295.out 0
    have hfz27_1 := blk_frozen BK295.out 1
    obtain ⟨Ao28, co28, eo28⟩ := Kd.R_slice HO_296001.out
    subst eo28
    have hcz29_0 := zx_ (v := .slice none 0 0) BK284 0
    have hcz29_1 := zx_ (v := .slice none 0 0) BK284 1
    have hfz29_0 := blk_frozen BK284.out 0
    have hfz29_1 := blk_frozen BK284.out 1
    go_wp2
    refine bodyPost_ret (results_cell_row rfl _ _ gb284 25 #[.slice Ao14 y288.length co14, .slice Ao28 x296001_1.length co28] (0, 0) _ rfl (zo2_ BK284) Try.underlying25 rfl (by kernel_rfl)) rfl ?_
    exact ⟨_, _, z0_, zr_ (Kd.R_mono (Kd.R_far (p := ⟨gb284, 1, none⟩) (Kd.R_far (p := ⟨gb284, 0, none⟩) (Kd.R_types HO_296000.out BK284.out (by decide)) (fun _ hk => hk.2) (.slice Ao14 y288.length co14)) (fun _ hk => hk.2) (.slice Ao28 x296001_1.length co28)) (fun _ hk => trivial)), zr_ (Kd.R_mono (Kd.R_far (p := ⟨gb284, 1, none⟩) (Kd.R_far (p := ⟨gb284, 0, none⟩) (Kd.R_types HO_296001.out BK284.out (by decide)) (fun _ hk => hk.2) (.slice Ao14 y288.length co14)) (fun _ hk => hk.2) (.slice Ao28 x296001_1.length co28)) (fun _ hk => trivial)), zw2_ HB GE284 GE295⟩
   rw [if_pos c18] at H
   have c18b0 : decide (x6_1 < (x296001_1.length : Int)) = true := decide_eq_true c18
   clear c18
   by_cases c19 : 0 ≤ x6_1
   rotate_left
   ·rw [if_neg c19] at H
    exact absurd H (by simp)
   rw [if_pos c19] at H
   have c19b0 : decide (0 ≤ x6_1) = true := decide_eq_true c19
   clear c19
   obtain ⟨y296, hy296⟩ : ∃ y_ : List Int, y_ = (x296001_1.set (x6_1 : Int).toNat a1) := ⟨_, rfl⟩
   replace H : (carouselref5_New.l0 k1 a1 (wrap64 (x6_1 + 1)) y288 y296) = some (r1, r2) := by first | (rw [hy296]; with_reducible exact H) | (have H2_ := (Option.bind_some _ _).symm.trans H; rw [hy296]; with_reducible exact H2_) | (have H2_ := (Option.bind_some _ _).symm.trans H; with_reducible exact H2_) | with_reducible exact H | (rw [hy296]; exact H) | exact H
   have Ny296 := Aside0.mk hy296
   clear hy296
   have H' := Aside0.mk H
   clear H
   have hnb21 := NB295_284.out
   have hnc21 := NB284_295.out
   have hcz22_0 := zx_ (v := .slice Ao14 y288.length co14) BK295 0
   have hcz22_1 := zx_ (v := u296001) BK295 1
   have hfz22_0 := blk_frozen BK295.out 0
   have hfz22_1 := blk_frozen BK295.out 1
   obtain ⟨Ao23, co23, eo23⟩ := Kd.R_slice HO_296001.out
   subst eo23
   have p20 : 0 ≤ (x6_1 : Int) := of_decide_eq_true (by first | (with_reducible assumption) | assumption)
   have q20 : (x6_1 : Int) < ((x296001_1.length : Int) : Int) := of_decide_eq_true (by first | (with_reducible assumption) | assumption)
   obtain ⟨go20, co20, eo20, gb20, gl20, cl20, HG20⟩ := Kd.R_form HO_296001.out (by omega)
   (first | cases eo20 | (injection eo20 with ea_ en_ ec_; (first | subst ea_ | (injection ea_ with ea_; subst ea_)); subst ec_; clear en_))
   have GB20 := Aside0.mk gb20
   have GG20 := Aside0.mk HG20
   clear gb20 gl20 HG20
   obtain ⟨hx20_0, hf20_0⟩ := Kd.R_celln 0 HO_296001.out (x6_1 : Int) p20 q20
   replace p20 := eq_true p20
   replace q20 := eq_true q20
   have HP24 := Kd.R_putg HO_296001.out (x6_1 : Int) a1
   go_wp2_with (first | ((with_reducible refine gate_store (t := 33) (p := 25) rfl ?_); refine store_event (t := 33) (p := 25) (v := ?vo_w25) (w1 := (wr.setCell ⟨go20, (x6_1 : Int).toNat, none⟩ (.int .i64 a1))) ?hg ?ho ?hn ?hr ?_; (case ho => rfl); (case hg => rfl); (case hn => rfl); (case hr => first | (go_simp; done) | (go_simp; rfl)); intro w25 hw; have hg : wr.grownBy w25 (some go20) := (by rw [hw]; exact HP24.2); have hp_ : Kd.R (Kd.int .i64) 33 w25 w.heap.size (fun _ => True) (.slice (some ⟨go20, 0, none⟩) x296001_1.length co23) y296 := (by rw [hw, Ny296.out]; exact HP24.1); clear HP24; replace HO_296000 := Aside0.mk (Kd.R_over' (v := (.slice (some ⟨go20, 0, none⟩) x296001_1.length co23)) (zr_ HO_296000.out) (Kd.R_typed HO_296001.out) (by decide) hg); replace BK284 := Aside0.mk (zh_ BK284 hg (Kd.R_ne HO_296001.out BK284.out (by decide))); replace BK295 := Aside0.mk (zh_ BK295 hg (Kd.R_ne HO_296001.out BK295.out (by decide))); replace HO_296001 := Aside0.mk (hp_); replace HB := Aside0.mk ((by rw [hw]; exact below_set (HB.out) GB20.out : Below w.heap.size w w25)); clear hg hw hp_))
   go_roundg k1
   case measure => have := HK1.out; omega
   case rel => exact ⟨(wrap64 (x6_1 + 1)), (y296), (.slice (some ⟨go20, 0, none⟩) x296001_1.length co23), z1_, H', ⟨by have := HK1.out; omega⟩, ⟨zr_ HO_296000.out⟩, ⟨zr_ HO_296001.out⟩, ⟨zb_ BK284⟩, ⟨zb_ BK295⟩, ⟨zw2_ HB GE284 GE295⟩⟩

/-! ### carouselref1_plus: function 48 -/
/-! ### words for arrays of four cells that lie in memory -/
theorem set_last_ (W : World) (cs : Array Value) (t : TypeId) (n off B : Nat) (v : Value) (hB : B = W.heap.size) : ((W.alloc (.cells cs t)).drewN n).setCell ⟨B, off, none⟩ v = (W.alloc (.cells (cs.setIfInBounds off v) t)).drewN n := by
 subst hB
 unfold World.alloc World.drewN World.setCell
 simp only [World.mk.injEq, and_true]
 apply Array.ext
 ·simp
 intro i h1 h2
 simp at h1 h2
 by_cases c : i = W.heap.size
 ·subst c
  simp [Array.getElem_modify, Array.getElem_push]
 have h3 : i < W.heap.size := by omega
 simp [Array.getElem_modify, Array.getElem_push, Ne.symm c, h3]
theorem set_last3_ (w : World) (o1 o2 o3 : Obj) (cs : Array Value) (t : TypeId) (n off : Nat) (v : Value) : (((((w.alloc o1).alloc o2).alloc o3).alloc (.cells cs t)).drewN n).setCell ⟨w.heap.size + 1 + 1 + 1, off, none⟩ v = ((((w.alloc o1).alloc o2).alloc o3).alloc (.cells (cs.setIfInBounds off v) t)).drewN n :=
 set_last_ _ cs t n off _ v (by simp only [World.alloc, Array.size_push])
theorem set_last4_ (w : World) (o1 o2 o3 : Obj) (cs : Array Value) (t : TypeId) (n m off : Nat) (v : Value) : ((((((w.alloc o1).alloc o2).alloc o3).alloc (.cells cs t)).drewN n).setCell ⟨w.heap.size + 1 + 1 + 1, off, none⟩ v).drewN m = ((((w.alloc o1).alloc o2).alloc o3).alloc (.cells (cs.setIfInBounds off v) t)).drewN (n + m) := by
 rw [set_last3_]
 simp only [World.drewN, Nat.add_assoc]
theorem end4_ (w : World) (o1 o2 o4 : Obj) (t : TypeId) (n : Nat) (z0 z1 z2 z3 v0 v1 v2 v3 : Value) :
  ((((((((((w.alloc o1).alloc o2).alloc (.cells #[z0, z1, z2, z3] t)).alloc o4).drewN n).setCell ⟨w.heap.size + 1 + 1, 0, none⟩ v0).setCell ⟨w.heap.size + 1 + 1, 1, none⟩ v1).setCell ⟨w.heap.size + 1 + 1, 2, none⟩ v2).setCell ⟨w.heap.size + 1 + 1, 3, none⟩ v3).heap[w.heap.size + 1 + 1]? = some (.cells #[v0, v1, v2, v3] t (0, 0))) ∧
  Below w.heap.size w (((((((((w.alloc o1).alloc o2).alloc (.cells #[z0, z1, z2, z3] t)).alloc o4).drewN n).setCell ⟨w.heap.size + 1 + 1, 0, none⟩ v0).setCell ⟨w.heap.size + 1 + 1, 1, none⟩ v1).setCell ⟨w.heap.size + 1 + 1, 2, none⟩ v2).setCell ⟨w.heap.size + 1 + 1, 3, none⟩ v3) := by
 have s2 : ((w.alloc o1).alloc o2).heap.size = w.heap.size + 1 + 1 := by simp only [World.alloc, Array.size_push]
 have s3 : (((w.alloc o1).alloc o2).alloc (.cells #[z0, z1, z2, z3] t)).heap.size = w.heap.size + 1 + 1 + 1 := by simp only [World.alloc, Array.size_push]
 have b := blk_new ((w.alloc o1).alloc o2) (.cells #[z0, z1, z2, z3] t (0, 0))
 rw [s2] at b
 constructor
 ·exact blk_put (cs := #[v0, v1, v2, z3]) (blk_put (cs := #[v0, v1, z2, z3]) (blk_put (cs := #[v0, z1, z2, z3]) (blk_put (cs := #[z0, z1, z2, z3]) (blk_drewN (blk_alloc b _) _) 0 _ rfl) 1 _ rfl) 2 _ rfl) 3 _ rfl
 ·have h1 := (Below.refl w.heap.size w).alloc (Nat.le_refl _) o1
  have h2 := h1.alloc (by simp only [World.alloc, Array.size_push]; omega) o2
  have h3 := h2.alloc (by rw [s2]; omega) (.cells #[z0, z1, z2, z3] t (0, 0))
  have h4 := h3.alloc (by rw [s3]; omega) o4
  have h5 : Below w.heap.size w (((((w.alloc o1).alloc o2).alloc (.cells #[z0, z1, z2, z3] t (0, 0))).alloc o4).drewN n) := ⟨h4.os, h4.tape, h4.output, h4.size, h4.block⟩
  exact (((h5.setCell (by show w.heap.size ≤ w.heap.size + 1 + 1; omega) _).setCell (by show w.heap.size ≤ w.heap.size + 1 + 1; omega) _).setCell (by show w.heap.size ≤ w.heap.size + 1 + 1; omega) _).setCell (by show w.heap.size ≤ w.heap.size + 1 + 1; omega) _
def carouselref1_plus.s (a b c : Int) : Int := IntKind.u64.wrap (IntKind.u64.wrap (a + b) + c)
def carouselref1_plus.c (a b c : Int) : Int := if IntKind.u64.wrap (a + b) < a then 1 else if carouselref1_plus.s a b c < IntKind.u64.wrap (a + b) then 1 else 0
theorem carouselref1_plus.s_z (a b : Int) : IntKind.u64.wrap (IntKind.u64.wrap (a + b)) = carouselref1_plus.s a b 0 := by unfold carouselref1_plus.s; rw [Int.add_zero]
theorem carouselref1_plus.c_pos (a b c : Int) (h : IntKind.u64.wrap (a + b) < a) : 1 = carouselref1_plus.c a b c := by unfold carouselref1_plus.c; rw [if_pos h]
theorem carouselref1_plus.c_mid (a b c : Int) (h1 : a ≤ IntKind.u64.wrap (a + b)) (h : IntKind.u64.wrap (a + b) < a ∨ IntKind.u64.wrap (IntKind.u64.wrap (a + b) + c) < IntKind.u64.wrap (a + b)) : 1 = carouselref1_plus.c a b c := by
 unfold carouselref1_plus.c carouselref1_plus.s; rw [if_neg (by omega), if_pos (by omega)]
theorem carouselref1_plus.c_neg (a b c : Int) (h1 : a ≤ IntKind.u64.wrap (a + b)) (h2 : a ≤ IntKind.u64.wrap (a + b) ∧ IntKind.u64.wrap (a + b) ≤ IntKind.u64.wrap (IntKind.u64.wrap (a + b) + c)) : 0 = carouselref1_plus.c a b c := by unfold carouselref1_plus.c carouselref1_plus.s; rw [if_neg (by omega), if_neg (by omega)]
theorem carouselref1_plus.c_posz (a b : Int) (h : IntKind.u64.wrap (a + b) < a) : 1 = carouselref1_plus.c a b 0 := carouselref1_plus.c_pos a b 0 h
theorem carouselref1_plus.c_midz (a b : Int) (h1 : a ≤ IntKind.u64.wrap (a + b)) (h : IntKind.u64.wrap (a + b) < a ∨ IntKind.u64.wrap (IntKind.u64.wrap (a + b)) < IntKind.u64.wrap (a + b)) : 1 = carouselref1_plus.c a b 0 := carouselref1_plus.c_mid a b 0 h1 (by rw [Int.add_zero]; exact h)
theorem carouselref1_plus.c_negz (a b : Int) (h1 : a ≤ IntKind.u64.wrap (a + b)) (h2 : a ≤ IntKind.u64.wrap (a + b) ∧ IntKind.u64.wrap (a + b) ≤ IntKind.u64.wrap (IntKind.u64.wrap (a + b))) : 0 = carouselref1_plus.c a b 0 := carouselref1_plus.c_neg a b 0 h1 (by rw [Int.add_zero]; exact h2)
def carouselref1_plus.f (a0_0 : Int) (a0_1 : Int) (a0_2 : Int) (a0_3 : Int) (a1_0 : Int) (a1_1 : Int) (a1_2 : Int) (a1_3 : Int) : Option (Int × Int × Int × Int) := some (carouselref1_plus.s a0_0 a1_0 0, carouselref1_plus.s a0_1 a1_1 (carouselref1_plus.c a0_0 a1_0 0), carouselref1_plus.s a0_2 a1_2 (carouselref1_plus.c a0_1 a1_1 (carouselref1_plus.c a0_0 a1_0 0)), carouselref1_plus.s a0_3 a1_3 (carouselref1_plus.c a0_2 a1_2 (carouselref1_plus.c a0_1 a1_1 (carouselref1_plus.c a0_0 a1_0 0))))
set_option maxHeartbeats 8000000 in
set_option maxRecDepth 100000 in
theorem carouselref1_plus.calls (a0_0 : Int) (a0_1 : Int) (a0_2 : Int) (a0_3 : Int) (a1_0 : Int) (a1_1 : Int) (a1_2 : Int) (a1_3 : Int) (r1 : Int) (r2 : Int) (r3 : Int) (r4 : Int) (w : World) (h : carouselref1_plus.f a0_0 a0_1 a0_2 a0_3 a1_0 a1_1 a1_2 a1_3 = some (r1, r2, r3, r4)) :
  Calls Try.prog 48 #[.agg #[.int .u64 a0_0, .int .u64 a0_1, .int .u64 a0_2, .int .u64 a0_3], .agg #[.int .u64 a1_0, .int .u64 a1_1, .int .u64 a1_2, .int .u64 a1_3]] w fun e w' => e = .returned (.agg #[.int .u64 r1, .int .u64 r2, .int .u64 r3, .int .u64 r4]) ∧ Below w.heap.size w w' := by
 unfold carouselref1_plus.f at h
 have H0 := Aside0.mk h
 clear h
 have hu59 := Try.underlying59
 go_enter Try.func48, Try.ntmps48
 go_wp2
 refine wp_loop_rounds 5 ?_
 rw [rounds_succ]
 go_upto_block 1 with (fail)
 go_cut [6] (fun v6 wc => ∃ (n : Nat) (k0 t0 : Int), v6 = .int .u64 k0 ∧ Aside0 (k0 = carouselref1_plus.c a0_0 a1_0 0) ∧ Aside0 (t0 = carouselref1_plus.s a0_0 a1_0 0) ∧ wc = (((((w.alloc (.cells #[.int .u64 a0_0, .int .u64 a0_1, .int .u64 a0_2, .int .u64 a0_3] 59)).alloc (.cells #[.int .u64 a1_0, .int .u64 a1_1, .int .u64 a1_2, .int .u64 a1_3] 59)).alloc (.cells #[.int .u64 0, .int .u64 0, .int .u64 0, .int .u64 0] 59)).alloc (.cells #[.int .u64 t0, .int .u64 0, .int .u64 0, .int .u64 0] 59))).drewN n)
 case first =>
  go_wp2
  go_quiet (fail)
  go_wp2
  all_goals go_meet
  all_goals first | exact ⟨_, _, _, rfl, ⟨carouselref1_plus.c_posz a0_0 a1_0 (by assumption)⟩, ⟨carouselref1_plus.s_z a0_0 a1_0⟩, set_last3_ _ _ _ _ _ _ _ _ _⟩ | exact ⟨_, _, _, rfl, ⟨carouselref1_plus.c_midz a0_0 a1_0 (by assumption) (by assumption)⟩, ⟨carouselref1_plus.s_z a0_0 a1_0⟩, set_last3_ _ _ _ _ _ _ _ _ _⟩ | exact ⟨_, _, _, rfl, ⟨carouselref1_plus.c_negz a0_0 a1_0 (by assumption) (by assumption)⟩, ⟨carouselref1_plus.s_z a0_0 a1_0⟩, set_last3_ _ _ _ _ _ _ _ _ _⟩
 case rest =>
  obtain ⟨n0, k0, t0, rfl, K0, T0, rfl⟩ := hcut
  go_wp2
  rw [rounds_succ]
  go_upto_block 1 with (fail)
  go_cut [6] (fun v6 wc => ∃ (n : Nat) (k1 t1 : Int), v6 = .int .u64 k1 ∧ Aside0 (k1 = carouselref1_plus.c a0_1 a1_1 k0) ∧ Aside0 (t1 = carouselref1_plus.s a0_1 a1_1 k0) ∧ wc = (((((w.alloc (.cells #[.int .u64 a0_0, .int .u64 a0_1, .int .u64 a0_2, .int .u64 a0_3] 59)).alloc (.cells #[.int .u64 a1_0, .int .u64 a1_1, .int .u64 a1_2, .int .u64 a1_3] 59)).alloc (.cells #[.int .u64 0, .int .u64 0, .int .u64 0, .int .u64 0] 59)).alloc (.cells #[.int .u64 t0, .int .u64 t1, .int .u64 0, .int .u64 0] 59))).drewN n)
  case first =>
   go_wp2
   go_quiet (fail)
   go_wp2
   all_goals go_meet
   all_goals first | exact ⟨_, _, _, rfl, ⟨carouselref1_plus.c_pos a0_1 a1_1 k0 (by assumption)⟩, ⟨rfl⟩, set_last3_ _ _ _ _ _ _ _ _ _⟩ | exact ⟨_, _, _, rfl, ⟨carouselref1_plus.c_mid a0_1 a1_1 k0 (by assumption) (by assumption)⟩, ⟨rfl⟩, set_last3_ _ _ _ _ _ _ _ _ _⟩ | exact ⟨_, _, _, rfl, ⟨carouselref1_plus.c_neg a0_1 a1_1 k0 (by assumption) (by assumption)⟩, ⟨rfl⟩, set_last3_ _ _ _ _ _ _ _ _ _⟩
  case rest =>
   obtain ⟨n1, k1, t1, rfl, K1, T1, rfl⟩ := hcut
   go_wp2
   rw [rounds_succ]
   go_upto_block 1 with (fail)
   go_cut [6] (fun v6 wc => ∃ (n : Nat) (k2 t2 : Int), v6 = .int .u64 k2 ∧ Aside0 (k2 = carouselref1_plus.c a0_2 a1_2 k1) ∧ Aside0 (t2 = carouselref1_plus.s a0_2 a1_2 k1) ∧ wc = (((((w.alloc (.cells #[.int .u64 a0_0, .int .u64 a0_1, .int .u64 a0_2, .int .u64 a0_3] 59)).alloc (.cells #[.int .u64 a1_0, .int .u64 a1_1, .int .u64 a1_2, .int .u64 a1_3] 59)).alloc (.cells #[.int .u64 0, .int .u64 0, .int .u64 0, .int .u64 0] 59)).alloc (.cells #[.int .u64 t0, .int .u64 t1, .int .u64 t2, .int .u64 0] 59))).drewN n)
   case first =>
    go_wp2
    go_quiet (fail)
    go_wp2
    all_goals go_meet
    all_goals first | exact ⟨_, _, _, rfl, ⟨carouselref1_plus.c_pos a0_2 a1_2 k1 (by assumption)⟩, ⟨rfl⟩, set_last3_ _ _ _ _ _ _ _ _ _⟩ | exact ⟨_, _, _, rfl, ⟨carouselref1_plus.c_mid a0_2 a1_2 k1 (by assumption) (by assumption)⟩, ⟨rfl⟩, set_last3_ _ _ _ _ _ _ _ _ _⟩ | exact ⟨_, _, _, rfl, ⟨carouselref1_plus.c_neg a0_2 a1_2 k1 (by assumption) (by assumption)⟩, ⟨rfl⟩, set_last3_ _ _ _ _ _ _ _ _ _⟩
   case rest =>
    obtain ⟨n2, k2, t2, rfl, K2, T2, rfl⟩ := hcut
    go_wp2
    rw [rounds_succ]
    go_upto_block 1 with (fail)
    go_cut [6] (fun v6 wc => ∃ (n : Nat) (k3 t3 : Int), v6 = .int .u64 k3 ∧ Aside0 (k3 = carouselref1_plus.c a0_3 a1_3 k2) ∧ Aside0 (t3 = carouselref1_plus.s a0_3 a1_3 k2) ∧ wc = (((((w.alloc (.cells #[.int .u64 a0_0, .int .u64 a0_1, .int .u64 a0_2, .int .u64 a0_3] 59)).alloc (.cells #[.int .u64 a1_0, .int .u64 a1_1, .int .u64 a1_2, .int .u64 a1_3] 59)).alloc (.cells #[.int .u64 0, .int .u64 0, .int .u64 0, .int .u64 0] 59)).alloc (.cells #[.int .u64 t0, .int .u64 t1, .int .u64 t2, .int .u64 t3] 59))).drewN n)
    case first =>
     go_wp2
     go_quiet (fail)
     go_wp2
     all_goals go_meet
     all_goals first | exact ⟨_, _, _, rfl, ⟨carouselref1_plus.c_pos a0_3 a1_3 k2 (by assumption)⟩, ⟨rfl⟩, set_last3_ _ _ _ _ _ _ _ _ _⟩ | exact ⟨_, _, _, rfl, ⟨carouselref1_plus.c_mid a0_3 a1_3 k2 (by assumption) (by assumption)⟩, ⟨rfl⟩, set_last3_ _ _ _ _ _ _ _ _ _⟩ | exact ⟨_, _, _, rfl, ⟨carouselref1_plus.c_neg a0_3 a1_3 k2 (by assumption) (by assumption)⟩, ⟨rfl⟩, set_last3_ _ _ _ _ _ _ _ _ _⟩
    case rest =>
     obtain ⟨n3, k3, t3, rfl, K3, T3, rfl⟩ := hcut
     go_wp2
     rw [rounds_succ]
     go_wp2
     have E := end4_ w (.cells #[.int .u64 a0_0, .int .u64 a0_1, .int .u64 a0_2, .int .u64 a0_3] 59) (.cells #[.int .u64 a1_0, .int .u64 a1_1, .int .u64 a1_2, .int .u64 a1_3] 59) (.cells #[.int .u64 t0, .int .u64 t1, .int .u64 t2, .int .u64 t3] 59) 59 n3 (.int .u64 0) (.int .u64 0) (.int .u64 0) (.int .u64 0) (.int .u64 t0) (.int .u64 t1) (.int .u64 t2) (.int .u64 t3)
     refine bodyPost_ret (results_cell_row rfl _ _ (w.heap.size + 1 + 1) 59 #[.int .u64 t0, .int .u64 t1, .int .u64 t2, .int .u64 t3] (0, 0) _ rfl E.1 hu59 rfl (by kernel_rfl)) rfl ⟨?_, E.2⟩
     have H := H0.out
     simp only [Option.some.injEq, Prod.mk.injEq] at H
     obtain ⟨rfl, rfl, rfl, rfl⟩ := H
     rw [T0.out, T1.out, T2.out, T3.out, K2.out, K1.out, K0.out]

/-! ### carouselref1_less: function 49 -/
def carouselref1_less.s (a0 a1 a2 a3 b0 b1 b2 b3 : Int) : Bool := if a3 = b3 then (if a2 = b2 then (if a1 = b1 then (if a0 = b0 then false else decide (a0 < b0)) else decide (a1 < b1)) else decide (a2 < b2)) else decide (a3 < b3)
def carouselref1_less.f (a0_0 : Int) (a0_1 : Int) (a0_2 : Int) (a0_3 : Int) (a1_0 : Int) (a1_1 : Int) (a1_2 : Int) (a1_3 : Int) : Option (Bool) := some (carouselref1_less.s a0_0 a0_1 a0_2 a0_3 a1_0 a1_1 a1_2 a1_3)
set_option maxHeartbeats 8000000 in
set_option maxRecDepth 100000 in
theorem carouselref1_less.calls (a0_0 : Int) (a0_1 : Int) (a0_2 : Int) (a0_3 : Int) (a1_0 : Int) (a1_1 : Int) (a1_2 : Int) (a1_3 : Int) (r : Bool) (w : World) (h : carouselref1_less.f a0_0 a0_1 a0_2 a0_3 a1_0 a1_1 a1_2 a1_3 = some r) :
  Calls Try.prog 49 #[.agg #[.int .u64 a0_0, .int .u64 a0_1, .int .u64 a0_2, .int .u64 a0_3], .agg #[.int .u64 a1_0, .int .u64 a1_1, .int .u64 a1_2, .int .u64 a1_3]] w fun e w' => e = .returned (.bool r) ∧ Below w.heap.size w w' := by
 have H0 := Aside0.mk (Option.some.inj h)
 clear h
 have HB := Aside0.mk (Below.refl w.heap.size w)
 have hu59 := Try.underlying59
 go_enter Try.func49, Try.ntmps49
 go_wp2
 refine wp_loop_rounds 5 ?_
 rw [rounds_succ]
 by_cases c3 : a0_3 = a1_3
 case neg =>
  have d3 : (a0_3 == a1_3) = false := by simp [c3]
  have C3 := Aside0.mk c3
  clear c3
  go_wp2
  go_quiet (fail)
  go_wp2
  go_quiet (fail)
  go_wp2
  go_ret
  refine ⟨?_, zw0_ HB⟩
  have H := H0.out
  unfold carouselref1_less.s at H
  rw [if_neg C3.out] at H
  rw [← H]
  rfl
 case pos =>
  have d3 : (a0_3 == a1_3) = true := by simp [c3]
  have C3 := Aside0.mk c3
  clear c3
  go_wp2
  go_quiet (fail)
  go_wp2
  rw [rounds_succ]
  by_cases c2 : a0_2 = a1_2
  case neg =>
   have d2 : (a0_2 == a1_2) = false := by simp [c2]
   have C2 := Aside0.mk c2
   clear c2
   go_wp2
   go_quiet (fail)
   go_wp2
   go_quiet (fail)
   go_wp2
   go_ret
   refine ⟨?_, zw0_ HB⟩
   have H := H0.out
   unfold carouselref1_less.s at H
   rw [if_pos C3.out, if_neg C2.out] at H
   rw [← H]
   rfl
  case pos =>
   have d2 : (a0_2 == a1_2) = true := by simp [c2]
   have C2 := Aside0.mk c2
   clear c2
   go_wp2
   go_quiet (fail)
   go_wp2
   rw [rounds_succ]
   by_cases c1 : a0_1 = a1_1
   case neg =>
    have d1 : (a0_1 == a1_1) = false := by simp [c1]
    have C1 := Aside0.mk c1
    clear c1
    go_wp2
    go_quiet (fail)
    go_wp2
    go_quiet (fail)
    go_wp2
    go_ret
    refine ⟨?_, zw0_ HB⟩
    have H := H0.out
    unfold carouselref1_less.s at H
    rw [if_pos C3.out, if_pos C2.out, if_neg C1.out] at H
    rw [← H]
    rfl
   case pos =>
    have d1 : (a0_1 == a1_1) = true := by simp [c1]
    have C1 := Aside0.mk c1
    clear c1
    go_wp2
    go_quiet (fail)
    go_wp2
    rw [rounds_succ]
    by_cases c0 : a0_0 = a1_0
    case neg =>
     have d0 : (a0_0 == a1_0) = false := by simp [c0]
     have C0 := Aside0.mk c0
     clear c0
     go_wp2
     go_quiet (fail)
     go_wp2
     go_quiet (fail)
     go_wp2
     go_ret
     refine ⟨?_, zw0_ HB⟩
     have H := H0.out
     unfold carouselref1_less.s at H
     rw [if_pos C3.out, if_pos C2.out, if_pos C1.out, if_neg C0.out] at H
     rw [← H]
     rfl
    case pos =>
     have d0 : (a0_0 == a1_0) = true := by simp [c0]
     have C0 := Aside0.mk c0
     clear c0
     go_wp2
     go_quiet (fail)
     go_wp2
     rw [rounds_succ]
     go_wp2
     go_ret
     refine ⟨?_, zw0_ HB⟩
     have H := H0.out
     unfold carouselref1_less.s at H
     rw [if_pos C3.out, if_pos C2.out, if_pos C1.out, if_pos C0.out] at H
     rw [← H]
     rfl

end Go.Proofs.Ytcipfhlcgnomaaa.PConvBacks
