/- The functions that the law TensNone reaches, as Lean functions, and that each call of the Go function does what its Lean function says, wherever that one answers. Written by a program of mine over the print of the kit; Lean checks it. -/
import Derived.Test.YtbdhabpplidgfaaPTensNonex0
import Derived.Test.YtbdhabpplidgfaaPTensNonex1
import Derived.Test.YtbdhabpplidgfaaPTensNonex5
namespace Go.Proofs.Ytbdhabpplidgfaa.PTensNone
open Go.RowKit Go.Proofs.YtbdhabpplidgfaaW.PrintWords Go.Proofs.YtbdhabpplidgfaaW.PrintLast Go.Proofs.YtbdhabpplidgfaaW.PrintMore
attribute [local go_sem] max2_int min2_int max_two min_two max_three min_three max_four min_four   -- for this text's walks alone
set_option linter.unusedVariables false
set_option linter.unusedSimpArgs false

/-! ### fix_Mul: function 44 -/
def fix_Mul.j0 : Nat → Int → Int → Int → Int → Bool → Option (Int)
 | 0, _, _, _, _, _ => none
 | k + 1, x0, x1, x8, x9, x38 => if x38 = true then ((bits_Add64.f x8 1 0).bind fun bt230 => ((fix_held.f k (IntKind.u64.wrap (x9 + bt230.2)) bt230.1 ((decide (x0 < 0)) != (decide (x1 < 0)))).bind fun t232 => (some t232))) else ((fix_held.f k x9 x8 ((decide (x0 < 0)) != (decide (x1 < 0)))).bind fun t233 => (some t233))
def fix_Mul.f (k : Nat) (a0 : Int) (a1 : Int) : Option (Int) := (fix_size.f a0).bind fun t226 => ((fix_size.f a1).bind fun t227 => ((bits_Mul64.f t226 t227).bind fun bt228 => (if (Go.bits .and .u64 bt228.2 4294967295) > 2147483648 then (fix_Mul.j0 k a0 a1 (Go.bits .or .u64 (IntKind.u64.wrap (bt228.1 * 4294967296)) (bt228.2 / 4294967296)) (bt228.1 / 4294967296) true) else (if (Go.bits .and .u64 bt228.2 4294967295) = 2147483648 then (fix_Mul.j0 k a0 a1 (Go.bits .or .u64 (IntKind.u64.wrap (bt228.1 * 4294967296)) (bt228.2 / 4294967296)) (bt228.1 / 4294967296) ((Go.bits .and .u64 (Go.bits .or .u64 (IntKind.u64.wrap (bt228.1 * 4294967296)) (bt228.2 / 4294967296)) 1) == 1)) else (fix_Mul.j0 k a0 a1 (Go.bits .or .u64 (IntKind.u64.wrap (bt228.1 * 4294967296)) (bt228.2 / 4294967296)) (bt228.1 / 4294967296) false)))))
theorem fix_Mul.mono_l : ∀ k, (∀ y0 y1 y2 y3 y4, LeO (fix_Mul.j0 k y0 y1 y2 y3 y4) (fix_Mul.j0 (k + 1) y0 y1 y2 y3 y4))
 | 0 => fun _ _ _ _ _ r h => by simp [fix_Mul.j0] at h
 | k + 1 => by
  have ih0 := fix_Mul.mono_l k
  ·intro y0 y1 y2 y3 y4
   unfold fix_Mul.j0
   repeat' first
   | (with_reducible exact ih0 _ _ _ _ _)
   | (with_reducible exact fix_held.mono _ _ _ _)
   | (with_reducible exact LeO.refl _)
   | (with_reducible exact LeO.none _)
   | (with_reducible refine LeO.ite ?_ ?_)
   | (with_reducible refine LeO.bind ?_ (fun _ => ?_))
   | exact ih0 _ _ _ _ _
   | exact fix_held.mono _ _ _ _
   | exact LeO.none _
   | refine LeO.ite ?_ ?_
   | refine LeO.bind ?_ (fun _ => ?_)
theorem fix_Mul.mono : ∀ a0 a1 k, LeO (fix_Mul.f k a0 a1) (fix_Mul.f (k + 1) a0 a1) := by
 intro a0 a1 k
 have ih0 := fix_Mul.mono_l k
 unfold fix_Mul.f
 repeat' first
   | (with_reducible exact ih0 _ _ _ _ _)
   | (with_reducible exact LeO.refl _)
   | (with_reducible exact LeO.none _)
   | (with_reducible refine LeO.ite ?_ ?_)
   | (with_reducible refine LeO.bind ?_ (fun _ => ?_))
   | exact ih0 _ _ _ _ _
   | exact LeO.none _
   | refine LeO.ite ?_ ?_
   | refine LeO.bind ?_ (fun _ => ?_)
set_option maxHeartbeats 8000000 in
set_option maxRecDepth 100000 in
theorem fix_Mul.calls (k : Nat) (a0 : Int) (a1 : Int) (r : Int) (w : World) (h : fix_Mul.f k a0 a1 = some r) :
  Calls Try.prog 44 #[.int .i64 a0, .int .i64 a1] w fun e w' => e = .returned (.int .i64 r) ∧ Drawn0 w w' := by
 have H : ((fix_size.f a0).bind fun t226 => ((fix_size.f a1).bind fun t227 => ((bits_Mul64.f t226 t227).bind fun bt228 => (if (Go.bits .and .u64 bt228.2 4294967295) > 2147483648 then (fix_Mul.j0 k a0 a1 (Go.bits .or .u64 (IntKind.u64.wrap (bt228.1 * 4294967296)) (bt228.2 / 4294967296)) (bt228.1 / 4294967296) true) else (if (Go.bits .and .u64 bt228.2 4294967295) = 2147483648 then (fix_Mul.j0 k a0 a1 (Go.bits .or .u64 (IntKind.u64.wrap (bt228.1 * 4294967296)) (bt228.2 / 4294967296)) (bt228.1 / 4294967296) ((Go.bits .and .u64 (Go.bits .or .u64 (IntKind.u64.wrap (bt228.1 * 4294967296)) (bt228.2 / 4294967296)) 1) == 1)) else (fix_Mul.j0 k a0 a1 (Go.bits .or .u64 (IntKind.u64.wrap (bt228.1 * 4294967296)) (bt228.2 / 4294967296)) (bt228.1 / 4294967296) false)))))) = some r := h
 clear h
 replace H := Option.bind_eq_some_iff.mp H
 obtain ⟨t226, A30, H⟩ := H
 (try dsimp only at H)
 have A3 := Aside0.mk A30
 clear A30
 replace H := Option.bind_eq_some_iff.mp H
 obtain ⟨t227, A40, H⟩ := H
 (try dsimp only at H)
 have A4 := Aside0.mk A40
 clear A40
 replace H := Option.bind_eq_some_iff.mp H
 obtain ⟨⟨t228, t229⟩, A50, H⟩ := H
 (try dsimp only at H)
 have A5 := Aside0.mk A50
 clear A50
 have HC6 := Aside0.mk H
 clear H
 go_enter Try.func44, Try.ntmps44
 go_upto_region 5 with (first | ((with_reducible refine gate_callee (f := 63) rfl ?_); refine zg_ (some 13) Try.func63 #[.int .i64 a0] (h := ?_); (with_reducible refine (fix_size.calls a0 t226 _ A3.out).mono ?_); rintro e w' ⟨rfl, ⟨nd, rfl⟩⟩; refine ⟨_, rfl, ?_⟩) | ((with_reducible refine gate_callee (f := 63) rfl ?_); refine zg_ (some 15) Try.func63 #[.int .i64 a1] (h := ?_); (with_reducible refine (fix_size.calls a1 t227 _ A4.out).mono ?_); rintro e w' ⟨rfl, ⟨nd, rfl⟩⟩; refine ⟨_, rfl, ?_⟩) | ((with_reducible refine gate_callee (f := 62) rfl ?_); refine zg_ (some 16) Try.func62 #[.int .u64 t226, .int .u64 t227] (h := ?_); (with_reducible refine (bits_Mul64.calls t226 t227 t228 t229 _ A5.out).mono ?_); rintro e w' ⟨rfl, ⟨nd, rfl⟩⟩; refine ⟨_, rfl, ?_⟩))
 (try simp only [Act.put, List.setIfInBounds_toArray, List.set_cons_zero, List.set_cons_succ])
 go_cut [38] (fun v38 wc => ∃ (kq : Nat) (x38_5 : Bool), v38 = .bool x38_5 ∧ Aside0 (fix_Mul.j0 kq a0 a1 (Go.bits .or .u64 (IntKind.u64.wrap (t228 * 4294967296)) (t229 / 4294967296)) (t228 / 4294967296) x38_5 = some r) ∧ Aside0 (kq ≤ k) ∧ Drawn0 w wc)
 case first =>
  have H := HC6.out
  clear HC6
  by_cases c7 : (Go.bits .and .u64 t229 4294967295) > 2147483648
  ·rw [if_pos c7] at H
   have c7b0 : decide (2147483648 < (Go.bits .and .u64 t229 4294967295)) = true := decide_eq_true c7
   clear c7
   (first | rw [c7b0] | (simp only [i64_w, i32_w]; rw [c7b0]) | skip)
   have H' := Aside0.mk H
   clear H
   go_wp2
   go_meet
   case rel => exact ⟨_, (true), (by first | rfl | (simp; done) | (simp [*]; done)), H', ⟨by first | omega | exact Nat.le_refl _⟩, by repeat (first | exact Drawn0.refl _ | apply Drawn0.step)⟩
  ·rw [if_neg c7] at H
   have c7b0 : decide (2147483648 < (Go.bits .and .u64 t229 4294967295)) = false := decide_eq_false c7
   clear c7
   (first | rw [c7b0] | (simp only [i64_w, i32_w]; rw [c7b0]) | skip)
   by_cases c8 : (Go.bits .and .u64 t229 4294967295) = 2147483648
   ·rw [if_pos c8] at H
    have c8b0 : ((Go.bits .and .u64 t229 4294967295) == 2147483648) = true := beq_iff_eq.mpr c8
    have c8b1 : ((Go.bits .and .u64 t229 4294967295) != 2147483648) = false := bne_eq_false_iff_eq.mpr c8
    clear c8
    have H' := Aside0.mk H
    clear H
    go_wp2
    go_meet
    case rel => exact ⟨_, (((Go.bits .and .u64 (Go.bits .or .u64 (IntKind.u64.wrap (t228 * 4294967296)) (t229 / 4294967296)) 1) == 1)), (by first | rfl | (simp; done) | (simp [*]; done)), H', ⟨by first | omega | exact Nat.le_refl _⟩, by repeat (first | exact Drawn0.refl _ | apply Drawn0.step)⟩
   ·rw [if_neg c8] at H
    have c8b0 : ((Go.bits .and .u64 t229 4294967295) == 2147483648) = false := beq_eq_false_iff_ne.mpr c8
    have c8b1 : ((Go.bits .and .u64 t229 4294967295) != 2147483648) = true := bne_iff_ne.mpr c8
    have H' := Aside0.mk H
    clear H
    go_wp2
    go_meet
    case rel => exact ⟨_, (false), (by first | rfl | (simp; done) | (simp [*]; done)), H', ⟨by first | omega | exact Nat.le_refl _⟩, by repeat (first | exact Drawn0.refl _ | apply Drawn0.step)⟩
 case rest =>
  clear HC6
  try clear p2
  try clear c4
  try clear c6
  try clear c7
  try clear c7b0
  try clear c8
  try clear c8b0
  try clear c8b1
  obtain ⟨kq, x38_5, rfl, HA, HJ5, ⟨mc5, rfl⟩⟩ := hcut
  cases kq with
  | zero => exact absurd HA.out (by simp [fix_Mul.j0])
  | succ kj5 =>
   have H := HA.out
   clear HA
   simp only [fix_Mul.j0] at H
   by_cases c9 : x38_5 = true
   ·subst c9
    have H1 := H
    rw [if_pos rfl] at H1
    clear H
    have H := H1
    clear H1
    replace H := Option.bind_eq_some_iff.mp H
    obtain ⟨⟨t230, t231⟩, A100, H⟩ := H
    (try dsimp only at H)
    have A10 := Aside0.mk A100
    clear A100
    replace H := Option.bind_eq_some_iff.mp H
    obtain ⟨t232, A110, H⟩ := H
    replace H : (some t232) = some r := H
    have A11 := Aside0.mk A110
    clear A110
    obtain rfl := Option.some.inj H
    go_wp2_with (first | ((with_reducible refine gate_callee (f := 64) rfl ?_); refine goesX_ (some 41) rfl rfl (f := 64) #[.int .u64 (Go.bits .or .u64 (IntKind.u64.wrap (t228 * 4294967296)) (t229 / 4294967296)), .int .u64 1, .int .u64 0] rfl (by (try simp only [List.map_toArray, List.map_cons, List.map_nil]); first | done | rfl | (simp only [List.length_drop, List.length_take]; rfl)) ?_; (with_reducible refine (bits_Add64.calls (Go.bits .or .u64 (IntKind.u64.wrap (t228 * 4294967296)) (t229 / 4294967296)) 1 0 t230 t231 _ A10.out).mono ?_); rintro e w' ⟨rfl, ⟨nd, rfl⟩⟩; refine ⟨_, rfl, ?_⟩) | ((with_reducible refine gate_callee (f := 65) rfl ?_); refine zg_ (some 54) Try.func65 #[.int .u64 (IntKind.u64.wrap ((t228 / 4294967296) + t231)), .int .u64 t230, .bool ((decide (a0 < 0)) != (decide (a1 < 0)))] (h := ?_); (with_reducible refine (fix_held.calls kj5 (IntKind.u64.wrap ((t228 / 4294967296) + t231)) t230 ((decide (a0 < 0)) != (decide (a1 < 0))) t232 _ A11.out).mono ?_); rintro e w' ⟨rfl, ⟨nd, rfl⟩⟩; refine ⟨_, rfl, ?_⟩))
    go_ret
    exact ⟨by first | rfl | (simp; done) | (simp [*]; done), by repeat (first | exact Drawn0.refl _ | apply Drawn0.step)⟩
   ·replace c9 := Bool.eq_false_iff.mpr c9
    subst c9
    have H1 := H
    rw [if_neg (show ¬ (false = true) by decide)] at H1
    clear H
    have H := H1
    clear H1
    replace H := Option.bind_eq_some_iff.mp H
    obtain ⟨t233, A120, H⟩ := H
    replace H : (some t233) = some r := H
    have A12 := Aside0.mk A120
    clear A120
    obtain rfl := Option.some.inj H
    go_wp2_with (first | ((with_reducible refine gate_callee (f := 65) rfl ?_); refine zg_ (some 54) Try.func65 #[.int .u64 (t228 / 4294967296), .int .u64 (Go.bits .or .u64 (IntKind.u64.wrap (t228 * 4294967296)) (t229 / 4294967296)), .bool ((decide (a0 < 0)) != (decide (a1 < 0)))] (h := ?_); (with_reducible refine (fix_held.calls kj5 (t228 / 4294967296) (Go.bits .or .u64 (IntKind.u64.wrap (t228 * 4294967296)) (t229 / 4294967296)) ((decide (a0 < 0)) != (decide (a1 < 0))) t233 _ A12.out).mono ?_); rintro e w' ⟨rfl, ⟨nd, rfl⟩⟩; refine ⟨_, rfl, ?_⟩))
    go_ret
    exact ⟨by first | rfl | (simp; done) | (simp [*]; done), by repeat (first | exact Drawn0.refl _ | apply Drawn0.step)⟩

/-! ### fix_Sub: function 45 -/
def fix_Sub.j0 : Nat → Int → Int → Bool → Option (Int)
 | 0, _, _, _ => none
 | k + 1, x0, x5, x20 => if x20 = true then (some x5) else (if x0 < 0 then (some (-9223372036854775808)) else (some 9223372036854775807))
def fix_Sub.f (k : Nat) (a0 : Int) (a1 : Int) : Option (Int) := if ((decide (a0 < 0)) == (decide (a1 < 0))) = true then (fix_Sub.j0 k a0 (wrap64 (a0 - a1)) true) else (fix_Sub.j0 k a0 (wrap64 (a0 - a1)) ((decide ((wrap64 (a0 - a1)) < 0)) == (decide (a0 < 0))))
theorem fix_Sub.mono_l : ∀ k, (∀ y0 y1 y2, LeO (fix_Sub.j0 k y0 y1 y2) (fix_Sub.j0 (k + 1) y0 y1 y2))
 | 0 => fun _ _ _ r h => by simp [fix_Sub.j0] at h
 | k + 1 => by
  have ih0 := fix_Sub.mono_l k
  ·intro y0 y1 y2
   unfold fix_Sub.j0
   repeat' first
   | (with_reducible exact ih0 _ _ _)
   | (with_reducible exact LeO.refl _)
   | (with_reducible exact LeO.none _)
   | (with_reducible refine LeO.ite ?_ ?_)
   | (with_reducible refine LeO.bind ?_ (fun _ => ?_))
   | exact ih0 _ _ _
   | exact LeO.none _
   | refine LeO.ite ?_ ?_
   | refine LeO.bind ?_ (fun _ => ?_)
theorem fix_Sub.mono : ∀ a0 a1 k, LeO (fix_Sub.f k a0 a1) (fix_Sub.f (k + 1) a0 a1) := by
 intro a0 a1 k
 have ih0 := fix_Sub.mono_l k
 unfold fix_Sub.f
 repeat' first
   | (with_reducible exact ih0 _ _ _)
   | (with_reducible exact LeO.refl _)
   | (with_reducible exact LeO.none _)
   | (with_reducible refine LeO.ite ?_ ?_)
   | (with_reducible refine LeO.bind ?_ (fun _ => ?_))
   | exact ih0 _ _ _
   | exact LeO.none _
   | refine LeO.ite ?_ ?_
   | refine LeO.bind ?_ (fun _ => ?_)
set_option maxHeartbeats 8000000 in
set_option maxRecDepth 100000 in
theorem fix_Sub.calls (k : Nat) (a0 : Int) (a1 : Int) (r : Int) (w : World) (h : fix_Sub.f k a0 a1 = some r) :
  Calls Try.prog 45 #[.int .i64 a0, .int .i64 a1] w fun e w' => e = .returned (.int .i64 r) ∧ Drawn0 w w' := by
 have H : (if ((decide (a0 < 0)) == (decide (a1 < 0))) = true then (fix_Sub.j0 k a0 (wrap64 (a0 - a1)) true) else (fix_Sub.j0 k a0 (wrap64 (a0 - a1)) ((decide ((wrap64 (a0 - a1)) < 0)) == (decide (a0 < 0))))) = some r := h
 clear h
 have HC3 := Aside0.mk H
 clear H
 go_enter Try.func45, Try.ntmps45
 go_upto_region 2 with (fail)
 go_cut [20] (fun v20 wc => ∃ (kq : Nat) (x20_2 : Bool), v20 = .bool x20_2 ∧ Aside0 (fix_Sub.j0 kq a0 (wrap64 (a0 - a1)) x20_2 = some r) ∧ Aside0 (kq ≤ k) ∧ Drawn0 w wc)
 case first =>
  have H := HC3.out
  clear HC3
  by_cases c4 : ((decide (a0 < 0)) == (decide (a1 < 0))) = true
  ·rw [if_pos c4] at H
   have c4b0 : ((decide (a0 < 0)) == (decide (a1 < 0))) = true := c4
   (try (have c4b1 : decide ((decide (a0 < 0)) = (decide (a1 < 0))) = true := by simpa using c4))
   (try (have c4b2 : ((decide (a0 < 0)) == (decide (a1 < 0))) = true := by simpa using c4))
   clear c4
   (first | rw [c4b0] | (simp only [i64_w, i32_w]; rw [c4b0]) | skip)
   have H' := Aside0.mk H
   clear H
   go_wp2
   go_meet
   case rel => exact ⟨_, (true), (by first | rfl | (simp; done) | (simp [*]; done)), H', ⟨by first | omega | exact Nat.le_refl _⟩, by repeat (first | exact Drawn0.refl _ | apply Drawn0.step)⟩
  ·rw [if_neg c4] at H
   have c4b0 : ((decide (a0 < 0)) == (decide (a1 < 0))) = false := by simpa using c4
   (try (have c4b1 : decide ((decide (a0 < 0)) = (decide (a1 < 0))) = false := by simpa using c4))
   (try (have c4b2 : ((decide (a0 < 0)) == (decide (a1 < 0))) = false := by simpa using c4))
   (try (have c4b3 : ¬ ((decide (a0 < 0)) = (decide (a1 < 0))) := by simpa using c4))
   clear c4
   (first | rw [c4b0] | (simp only [i64_w, i32_w]; rw [c4b0]) | skip)
   have H' := Aside0.mk H
   clear H
   go_wp2
   go_meet
   case rel => exact ⟨_, (((decide ((wrap64 (a0 - a1)) < 0)) == (decide (a0 < 0)))), (by first | rfl | (simp; done) | (simp [*]; done)), H', ⟨by first | omega | exact Nat.le_refl _⟩, by repeat (first | exact Drawn0.refl _ | apply Drawn0.step)⟩
 case rest =>
  clear HC3
  try clear p2
  try clear c4
  try clear c4b0
  try clear c4b1
  try clear c4b2
  obtain ⟨kq, x20_2, rfl, HA, HJ2, ⟨mc2, rfl⟩⟩ := hcut
  cases kq with
  | zero => exact absurd HA.out (by simp [fix_Sub.j0])
  | succ kj2 =>
   have H := HA.out
   clear HA
   simp only [fix_Sub.j0] at H
   by_cases c5 : x20_2 = true
   ·subst c5
    have H1 : (some (wrap64 (a0 - a1))) = some r := by rw [if_pos rfl] at H; exact H
    clear H
    have H := H1
    clear H1
    obtain rfl := Option.some.inj H
    go_wp2
    go_ret
    exact ⟨by first | rfl | (simp; done) | (simp [*]; done), by repeat (first | exact Drawn0.refl _ | apply Drawn0.step)⟩
   ·replace c5 := Bool.eq_false_iff.mpr c5
    subst c5
    have H1 := H
    rw [if_neg (show ¬ (false = true) by decide)] at H1
    clear H
    have H := H1
    clear H1
    by_cases c6 : a0 < 0
    ·rw [if_pos c6] at H
     have c6b0 : decide (a0 < 0) = true := decide_eq_true c6
     clear c6
     obtain rfl := Option.some.inj H
     go_wp2
     go_ret
     exact ⟨by first | rfl | (simp; done) | (simp [*]; done), by repeat (first | exact Drawn0.refl _ | apply Drawn0.step)⟩
    ·rw [if_neg c6] at H
     have c6b0 : decide (a0 < 0) = false := decide_eq_false c6
     clear c6
     obtain rfl := Option.some.inj H
     go_wp2
     go_ret
     exact ⟨by first | rfl | (simp; done) | (simp [*]; done), by repeat (first | exact Drawn0.refl _ | apply Drawn0.step)⟩

end Go.Proofs.Ytbdhabpplidgfaa.PTensNone
