/- The functions that the law WideKnown reaches, as Lean functions, and that each call of the Go function does what its Lean function says, wherever that one answers. Written by a program of mine over the print of the kit; Lean checks it. -/
import Derived.Test.YtalghnbolnimiaaPWideKnownx0
import Derived.Test.YtalghnbolnimiaaPWideKnownx2
import Derived.Test.YtalghnbolnimiaaPWideKnownx4
import Derived.Test.YtalghnbolnimiaaPWideKnownx5
namespace Go.Proofs.Ytalghnbolnimiaa.PWideKnown
open Go.RowKit Go.Proofs.YtalghnbolnimiaaW.PrintWords Go.Proofs.YtalghnbolnimiaaW.PrintLast Go.Proofs.YtalghnbolnimiaaW.PrintMore
attribute [local go_sem] max2_int min2_int max_two min_two max_three min_three max_four min_four   -- for this text's walks alone
set_option linter.unusedVariables false
set_option linter.unusedSimpArgs false

/-! ### fix_held: function 64 -/
def fix_held.j0 : Nat → Int → Int → Bool → Bool → Option (Int)
 | 0, _, _, _, _ => none
 | k + 1, x0, x1, x2, x7 => if x7 = true then (some (-9223372036854775808)) else (if x2 = true then (some (wrap64 (-(wrap64 (x1))))) else (if x0 > 0 then (some 9223372036854775807) else (if x1 ≥ 9223372036854775808 then (some 9223372036854775807) else (some (wrap64 (x1))))))
def fix_held.f (k : Nat) (a0 : Int) (a1 : Int) (a2 : Bool) : Option (Int) := if a2 = true then (if a0 > 0 then (fix_held.j0 k a0 a1 a2 true) else (fix_held.j0 k a0 a1 a2 (decide (a1 ≥ 9223372036854775808)))) else (fix_held.j0 k a0 a1 a2 false)
theorem fix_held.mono_l : ∀ k, (∀ y0 y1 y2 y3, LeO (fix_held.j0 k y0 y1 y2 y3) (fix_held.j0 (k + 1) y0 y1 y2 y3))
 | 0 => fun _ _ _ _ r h => by simp [fix_held.j0] at h
 | k + 1 => by
  have ih0 := fix_held.mono_l k
  ·intro y0 y1 y2 y3
   unfold fix_held.j0
   repeat' first
   | (with_reducible exact ih0 _ _ _ _)
   | (with_reducible exact LeO.refl _)
   | (with_reducible exact LeO.none _)
   | (with_reducible refine LeO.ite ?_ ?_)
   | (with_reducible refine LeO.bind ?_ (fun _ => ?_))
   | exact ih0 _ _ _ _
   | exact LeO.none _
   | refine LeO.ite ?_ ?_
   | refine LeO.bind ?_ (fun _ => ?_)
theorem fix_held.mono : ∀ a0 a1 a2 k, LeO (fix_held.f k a0 a1 a2) (fix_held.f (k + 1) a0 a1 a2) := by
 intro a0 a1 a2 k
 have ih0 := fix_held.mono_l k
 unfold fix_held.f
 repeat' first
   | (with_reducible exact ih0 _ _ _ _)
   | (with_reducible exact LeO.refl _)
   | (with_reducible exact LeO.none _)
   | (with_reducible refine LeO.ite ?_ ?_)
   | (with_reducible refine LeO.bind ?_ (fun _ => ?_))
   | exact ih0 _ _ _ _
   | exact LeO.none _
   | refine LeO.ite ?_ ?_
   | refine LeO.bind ?_ (fun _ => ?_)
set_option maxHeartbeats 8000000 in
set_option maxRecDepth 100000 in
theorem fix_held.calls (k : Nat) (a0 : Int) (a1 : Int) (a2 : Bool) (r : Int) (w : World) (h : fix_held.f k a0 a1 a2 = some r) :
  Calls Try.prog 64 #[.int .u64 a0, .int .u64 a1, .bool a2] w fun e w' => e = .returned (.int .i64 r) ∧ Drawn0 w w' := by
 have H : (if a2 = true then (if a0 > 0 then (fix_held.j0 k a0 a1 a2 true) else (fix_held.j0 k a0 a1 a2 (decide (a1 ≥ 9223372036854775808)))) else (fix_held.j0 k a0 a1 a2 false)) = some r := h
 clear h
 have HC4 := Aside0.mk H
 clear H
 go_enter Try.func64, Try.ntmps64
 go_upto_region 1 with (fail)
 go_cut [7] (fun v7 wc => ∃ (kq : Nat) (x7_3 : Bool), v7 = .bool x7_3 ∧ Aside0 (fix_held.j0 kq a0 a1 a2 x7_3 = some r) ∧ Aside0 (kq ≤ k) ∧ Drawn0 w wc)
 case first =>
  have H := HC4.out
  clear HC4
  by_cases c5 : a2 = true
  rotate_left
  ·replace c5 := Bool.eq_false_iff.mpr c5
   subst c5
   have H1 : (fix_held.j0 k a0 a1 false false) = some r := by rw [if_neg (show ¬ (false = true) by decide)] at H; exact H
   clear H
   have H := H1
   clear H1
   have H' := Aside0.mk H
   clear H
   go_wp2
   go_meet
   case rel => exact ⟨_, (false), z1_, H', ⟨by first | omega | exact Nat.le_refl _⟩, by repeat (first | exact Drawn0.refl _ | apply Drawn0.step)⟩
  subst c5
  have H1 := H
  rw [if_pos rfl] at H1
  clear H
  have H := H1
  clear H1
  by_cases c6 : a0 > 0
  ·rw [if_pos c6] at H
   have c6b0 : decide (0 < a0) = true := decide_eq_true c6
   clear c6
   (first | rw [c6b0] | (simp only [i64_w, i32_w]; rw [c6b0]) | skip)
   have H' := Aside0.mk H
   clear H
   go_wp2
   go_meet
   case rel => exact ⟨_, (true), z1_, H', ⟨by first | omega | exact Nat.le_refl _⟩, by repeat (first | exact Drawn0.refl _ | apply Drawn0.step)⟩
  rw [if_neg c6] at H
  have c6b0 : decide (0 < a0) = false := decide_eq_false c6
  clear c6
  (first | rw [c6b0] | (simp only [i64_w, i32_w]; rw [c6b0]) | skip)
  have H' := Aside0.mk H
  clear H
  go_wp2
  go_meet
  case rel => exact ⟨_, (decide (a1 ≥ 9223372036854775808)), z1_, H', ⟨by first | omega | exact Nat.le_refl _⟩, by repeat (first | exact Drawn0.refl _ | apply Drawn0.step)⟩
 case rest =>
  clear HC4
  try clear p2
  try clear c5
  try clear c6
  try clear c6b0
  obtain ⟨kq, x7_3, rfl, HA, HJ3, ⟨mc3, rfl⟩⟩ := hcut
  cases kq with
  | zero => exact absurd HA.out (by simp [fix_held.j0])
  | succ kj3 =>
   have H := HA.out
   clear HA
   simp only [fix_held.j0] at H
   by_cases c7 : x7_3 = true
   ·subst c7
    have H1 : (some (-9223372036854775808)) = some r := by rw [if_pos rfl] at H; exact H
    clear H
    have H := H1
    clear H1
    obtain rfl := Option.some.inj H
    go_wp2
    go_ret
    exact ⟨by first | rfl | (simp; done) | (simp [*]; done), by repeat (first | exact Drawn0.refl _ | apply Drawn0.step)⟩
   replace c7 := Bool.eq_false_iff.mpr c7
   subst c7
   have H1 := H
   rw [if_neg (show ¬ (false = true) by decide)] at H1
   clear H
   have H := H1
   clear H1
   by_cases c8 : a2 = true
   ·subst c8
    have H1 : (some (wrap64 (-(wrap64 (a1))))) = some r := by rw [if_pos rfl] at H; exact H
    clear H
    have H := H1
    clear H1
    obtain rfl := Option.some.inj H
    go_wp2
    go_ret
    exact ⟨by first | rfl | (simp; done) | (simp [*]; done), by repeat (first | exact Drawn0.refl _ | apply Drawn0.step)⟩
   replace c8 := Bool.eq_false_iff.mpr c8
   subst c8
   have H1 := H
   rw [if_neg (show ¬ (false = true) by decide)] at H1
   clear H
   have H := H1
   clear H1
   by_cases c9 : a0 > 0
   ·rw [if_pos c9] at H
    have c9b0 : decide (0 < a0) = true := decide_eq_true c9
    clear c9
    obtain rfl := Option.some.inj H
    go_wp2
    go_ret
    exact ⟨by first | rfl | (simp; done) | (simp [*]; done), by repeat (first | exact Drawn0.refl _ | apply Drawn0.step)⟩
   rw [if_neg c9] at H
   have c9b0 : decide (0 < a0) = false := decide_eq_false c9
   clear c9
   by_cases c10 : a1 ≥ 9223372036854775808
   ·rw [if_pos c10] at H
    have c10b0 : decide (9223372036854775808 ≤ a1) = true := decide_eq_true c10
    clear c10
    obtain rfl := Option.some.inj H
    go_wp2
    go_ret
    exact ⟨by first | rfl | (simp; done) | (simp [*]; done), by repeat (first | exact Drawn0.refl _ | apply Drawn0.step)⟩
   rw [if_neg c10] at H
   have c10b0 : decide (9223372036854775808 ≤ a1) = false := decide_eq_false c10
   clear c10
   obtain rfl := Option.some.inj H
   go_wp2
   go_ret
   exact ⟨by first | rfl | (simp; done) | (simp [*]; done), by repeat (first | exact Drawn0.refl _ | apply Drawn0.step)⟩

/-! ### fix_Div: function 53 -/
def fix_Div.j0 : Nat → Bool → Int → Int → Bool → Option (Int)
 | 0, _, _, _, _ => none
 | k + 1, x7, x10, x12, x62 => if x62 = true then ((bits_Add64.f x10 1 0).bind fun bt170 => ((fix_held.f k bt170.2 bt170.1 x7).bind fun t172 => (some t172))) else ((fix_held.f k x12 x10 x7).bind fun t173 => (some t173))
def fix_Div.f (k : Nat) (a0 : Int) (a1 : Int) : Option (Int) := if a1 = 0 then (if a0 > 0 then (some 9223372036854775807) else (if a0 < 0 then (some (-9223372036854775808)) else (some 0))) else ((fix_size.f a0).bind fun t165 => ((fix_size.f a1).bind fun t166 => (if (t165 / 4294967296) ≥ t166 then ((fix_held.f k 1 0 ((decide (a0 < 0)) != (decide (a1 < 0)))).bind fun t167 => (some t167)) else ((bits_Div64.f k (t165 / 4294967296) (IntKind.u64.wrap (t165 * 4294967296)) t166).bind fun bt168 => (if bt168.2 > (IntKind.u64.wrap (t166 - bt168.2)) then (fix_Div.j0 k ((decide (a0 < 0)) != (decide (a1 < 0))) bt168.1 0 true) else (if bt168.2 = (IntKind.u64.wrap (t166 - bt168.2)) then (fix_Div.j0 k ((decide (a0 < 0)) != (decide (a1 < 0))) bt168.1 0 ((Go.bits .and .u64 bt168.1 1) == 1)) else (fix_Div.j0 k ((decide (a0 < 0)) != (decide (a1 < 0))) bt168.1 0 false)))))))
theorem fix_Div.mono_l : ∀ k, (∀ y0 y1 y2 y3, LeO (fix_Div.j0 k y0 y1 y2 y3) (fix_Div.j0 (k + 1) y0 y1 y2 y3))
 | 0 => fun _ _ _ _ r h => by simp [fix_Div.j0] at h
 | k + 1 => by
  have ih0 := fix_Div.mono_l k
  ·intro y0 y1 y2 y3
   unfold fix_Div.j0
   repeat' first
   | (with_reducible exact ih0 _ _ _ _)
   | (with_reducible exact fix_held.mono _ _ _ _)
   | (with_reducible exact LeO.refl _)
   | (with_reducible exact LeO.none _)
   | (with_reducible refine LeO.ite ?_ ?_)
   | (with_reducible refine LeO.bind ?_ (fun _ => ?_))
   | exact ih0 _ _ _ _
   | exact fix_held.mono _ _ _ _
   | exact LeO.none _
   | refine LeO.ite ?_ ?_
   | refine LeO.bind ?_ (fun _ => ?_)
theorem fix_Div.mono : ∀ a0 a1 k, LeO (fix_Div.f k a0 a1) (fix_Div.f (k + 1) a0 a1) := by
 intro a0 a1 k
 have ih0 := fix_Div.mono_l k
 unfold fix_Div.f
 repeat' first
   | (with_reducible exact ih0 _ _ _ _)
   | (with_reducible exact bits_Div64.mono _ _ _ _)
   | (with_reducible exact fix_held.mono _ _ _ _)
   | (with_reducible exact LeO.refl _)
   | (with_reducible exact LeO.none _)
   | (with_reducible refine LeO.ite ?_ ?_)
   | (with_reducible refine LeO.bind ?_ (fun _ => ?_))
   | exact ih0 _ _ _ _
   | exact bits_Div64.mono _ _ _ _
   | exact fix_held.mono _ _ _ _
   | exact LeO.none _
   | refine LeO.ite ?_ ?_
   | refine LeO.bind ?_ (fun _ => ?_)
set_option maxHeartbeats 8000000 in
set_option maxRecDepth 100000 in
theorem fix_Div.calls (k : Nat) (a0 : Int) (a1 : Int) (r : Int) (w : World) (h : fix_Div.f k a0 a1 = some r) :
  Calls Try.prog 53 #[.int .i64 a0, .int .i64 a1] w fun e w' => e = .returned (.int .i64 r) ∧ Drawn0 w w' := by
 have H : (if a1 = 0 then (if a0 > 0 then (some 9223372036854775807) else (if a0 < 0 then (some (-9223372036854775808)) else (some 0))) else ((fix_size.f a0).bind fun t165 => ((fix_size.f a1).bind fun t166 => (if (t165 / 4294967296) ≥ t166 then ((fix_held.f k 1 0 ((decide (a0 < 0)) != (decide (a1 < 0)))).bind fun t167 => (some t167)) else ((bits_Div64.f k (t165 / 4294967296) (IntKind.u64.wrap (t165 * 4294967296)) t166).bind fun bt168 => (if bt168.2 > (IntKind.u64.wrap (t166 - bt168.2)) then (fix_Div.j0 k ((decide (a0 < 0)) != (decide (a1 < 0))) bt168.1 0 true) else (if bt168.2 = (IntKind.u64.wrap (t166 - bt168.2)) then (fix_Div.j0 k ((decide (a0 < 0)) != (decide (a1 < 0))) bt168.1 0 ((Go.bits .and .u64 bt168.1 1) == 1)) else (fix_Div.j0 k ((decide (a0 < 0)) != (decide (a1 < 0))) bt168.1 0 false)))))))) = some r := h
 clear h
 by_cases c3 : a1 = 0
 ·rw [if_pos c3] at H
  have c3b0 : (a1 == 0) = true := beq_iff_eq.mpr c3
  have c3b1 : (a1 != 0) = false := bne_eq_false_iff_eq.mpr c3
  clear c3
  by_cases c4 : a0 > 0
  ·rw [if_pos c4] at H
   have c4b0 : decide (0 < a0) = true := decide_eq_true c4
   clear c4
   obtain rfl := Option.some.inj H
   go_enter Try.func53, Try.ntmps53
   go_wp2
   go_ret
   exact ⟨by first | rfl | (simp; done) | (simp [*]; done), by repeat (first | exact Drawn0.refl _ | apply Drawn0.step)⟩
  rw [if_neg c4] at H
  have c4b0 : decide (0 < a0) = false := decide_eq_false c4
  clear c4
  by_cases c5 : a0 < 0
  ·rw [if_pos c5] at H
   have c5b0 : decide (a0 < 0) = true := decide_eq_true c5
   clear c5
   obtain rfl := Option.some.inj H
   go_enter Try.func53, Try.ntmps53
   go_wp2
   go_ret
   exact ⟨by first | rfl | (simp; done) | (simp [*]; done), by repeat (first | exact Drawn0.refl _ | apply Drawn0.step)⟩
  rw [if_neg c5] at H
  have c5b0 : decide (a0 < 0) = false := decide_eq_false c5
  clear c5
  obtain rfl := Option.some.inj H
  go_enter Try.func53, Try.ntmps53
  go_wp2
  go_ret
  exact ⟨by first | rfl | (simp; done) | (simp [*]; done), by repeat (first | exact Drawn0.refl _ | apply Drawn0.step)⟩
 rw [if_neg c3] at H
 have c3b0 : (a1 == 0) = false := beq_eq_false_iff_ne.mpr c3
 have c3b1 : (a1 != 0) = true := bne_iff_ne.mpr c3
 replace H := Option.bind_eq_some_iff.mp H
 obtain ⟨t165, A60, H⟩ := H
 (try dsimp only at H)
 have A6 := Aside0.mk A60
 clear A60
 replace H := Option.bind_eq_some_iff.mp H
 obtain ⟨t166, A70, H⟩ := H
 (try dsimp only at H)
 have A7 := Aside0.mk A70
 clear A70
 by_cases c8 : (t165 / 4294967296) ≥ t166
 ·rw [if_pos c8] at H
  have c8b0 : decide (t166 ≤ (t165 / 4294967296)) = true := decide_eq_true c8
  clear c8
  replace H := Option.bind_eq_some_iff.mp H
  obtain ⟨t167, A90, H⟩ := H
  replace H : (some t167) = some r := H
  have A9 := Aside0.mk A90
  clear A90
  obtain rfl := Option.some.inj H
  go_enter Try.func53, Try.ntmps53
  go_wp2_with (first | ((with_reducible refine gate_callee (f := 63) rfl ?_); refine zg_ (some 22) Try.func63 #[.int .i64 a0] (h := ?_); (with_reducible refine (fix_size.calls a0 t165 _ A6.out).mono ?_); rintro e w' ⟨rfl, ⟨nd, rfl⟩⟩; refine ⟨_, rfl, ?_⟩) | ((with_reducible refine gate_callee (f := 63) rfl ?_); refine zg_ (some 24) Try.func63 #[.int .i64 a1] (h := ?_); (with_reducible refine (fix_size.calls a1 t166 _ A7.out).mono ?_); rintro e w' ⟨rfl, ⟨nd, rfl⟩⟩; refine ⟨_, rfl, ?_⟩) | ((with_reducible refine gate_callee (f := 64) rfl ?_); refine zg_ (some 38) Try.func64 #[.int .u64 1, .int .u64 0, .bool ((decide (a0 < 0)) != (decide (a1 < 0)))] (h := ?_); (with_reducible refine (fix_held.calls k 1 0 ((decide (a0 < 0)) != (decide (a1 < 0))) t167 _ A9.out).mono ?_); rintro e w' ⟨rfl, ⟨nd, rfl⟩⟩; refine ⟨_, rfl, ?_⟩))
  go_ret
  exact ⟨by first | rfl | (simp; done) | (simp [*]; done), by repeat (first | exact Drawn0.refl _ | apply Drawn0.step)⟩
 rw [if_neg c8] at H
 have c8b0 : decide (t166 ≤ (t165 / 4294967296)) = false := decide_eq_false c8
 clear c8
 replace H := Option.bind_eq_some_iff.mp H
 obtain ⟨⟨t168, t169⟩, A100, H⟩ := H
 (try dsimp only at H)
 have A10 := Aside0.mk A100
 clear A100
 have HC11 := Aside0.mk H
 clear H
 go_enter Try.func53, Try.ntmps53
 go_upto_region 14 with (first | ((with_reducible refine gate_callee (f := 63) rfl ?_); refine zg_ (some 22) Try.func63 #[.int .i64 a0] (h := ?_); (with_reducible refine (fix_size.calls a0 t165 _ A6.out).mono ?_); rintro e w' ⟨rfl, ⟨nd, rfl⟩⟩; refine ⟨_, rfl, ?_⟩) | ((with_reducible refine gate_callee (f := 63) rfl ?_); refine zg_ (some 24) Try.func63 #[.int .i64 a1] (h := ?_); (with_reducible refine (fix_size.calls a1 t166 _ A7.out).mono ?_); rintro e w' ⟨rfl, ⟨nd, rfl⟩⟩; refine ⟨_, rfl, ?_⟩) | ((with_reducible refine gate_callee (f := 55) rfl ?_); refine zg_ (some 43) Try.func55 #[.int .u64 (t165 / 4294967296), .int .u64 (IntKind.u64.wrap (t165 * 4294967296)), .int .u64 t166] (h := ?_); (with_reducible refine (bits_Div64.calls k (t165 / 4294967296) (IntKind.u64.wrap (t165 * 4294967296)) t166 t168 t169 _ A10.out).mono ?_); rintro e w' ⟨rfl, ⟨nd, rfl⟩⟩; refine ⟨_, rfl, ?_⟩))
 (try simp only [Act.put, List.setIfInBounds_toArray, List.set_cons_zero, List.set_cons_succ])
 go_cut [62] (fun v62 wc => ∃ (kq : Nat) (x62_10 : Bool), v62 = .bool x62_10 ∧ Aside0 (fix_Div.j0 kq ((decide (a0 < 0)) != (decide (a1 < 0))) t168 0 x62_10 = some r) ∧ Aside0 (kq ≤ k) ∧ Drawn0 w wc)
 case first =>
  have H := HC11.out
  clear HC11
  by_cases c12 : t169 > (IntKind.u64.wrap (t166 - t169))
  ·rw [if_pos c12] at H
   have c12b0 : decide ((IntKind.u64.wrap (t166 - t169)) < t169) = true := decide_eq_true c12
   clear c12
   (first | rw [c12b0] | (simp only [i64_w, i32_w]; rw [c12b0]) | skip)
   have H' := Aside0.mk H
   clear H
   go_wp2
   go_meet
   case rel => exact ⟨_, (true), z1_, H', ⟨by first | omega | exact Nat.le_refl _⟩, by repeat (first | exact Drawn0.refl _ | apply Drawn0.step)⟩
  rw [if_neg c12] at H
  have c12b0 : decide ((IntKind.u64.wrap (t166 - t169)) < t169) = false := decide_eq_false c12
  clear c12
  (first | rw [c12b0] | (simp only [i64_w, i32_w]; rw [c12b0]) | skip)
  by_cases c13 : t169 = (IntKind.u64.wrap (t166 - t169))
  rotate_left
  ·rw [if_neg c13] at H
   have c13b0 : (t169 == (IntKind.u64.wrap (t166 - t169))) = false := beq_eq_false_iff_ne.mpr c13
   have c13b1 : (t169 != (IntKind.u64.wrap (t166 - t169))) = true := bne_iff_ne.mpr c13
   have H' := Aside0.mk H
   clear H
   go_wp2
   go_meet
   case rel => exact ⟨_, (false), z1_, H', ⟨by first | omega | exact Nat.le_refl _⟩, by repeat (first | exact Drawn0.refl _ | apply Drawn0.step)⟩
  rw [if_pos c13] at H
  have c13b0 : (t169 == (IntKind.u64.wrap (t166 - t169))) = true := beq_iff_eq.mpr c13
  have c13b1 : (t169 != (IntKind.u64.wrap (t166 - t169))) = false := bne_eq_false_iff_eq.mpr c13
  clear c13
  have H' := Aside0.mk H
  clear H
  go_wp2
  go_meet
  case rel => exact ⟨_, (((Go.bits .and .u64 t168 1) == 1)), z1_, H', ⟨by first | omega | exact Nat.le_refl _⟩, by repeat (first | exact Drawn0.refl _ | apply Drawn0.step)⟩
 case rest =>
  clear HC11
  try clear c1
  try clear p2
  try clear c3
  try clear c3b0
  try clear c3b1
  try clear c4
  try clear c4b0
  try clear c5
  try clear c5b0
  try clear c6
  try clear c8
  try clear c8b0
  try clear c12
  try clear c12b0
  try clear c13
  try clear c13b0
  try clear c13b1
  obtain ⟨kq, x62_10, rfl, HA, HJ10, ⟨mc10, rfl⟩⟩ := hcut
  cases kq with
  | zero => exact absurd HA.out (by simp [fix_Div.j0])
  | succ kj10 =>
   have H := HA.out
   clear HA
   simp only [fix_Div.j0] at H
   by_cases c14 : x62_10 = true
   rotate_left
   ·replace c14 := Bool.eq_false_iff.mpr c14
    subst c14
    have H1 := H
    rw [if_neg (show ¬ (false = true) by decide)] at H1
    clear H
    have H := H1
    clear H1
    replace H := Option.bind_eq_some_iff.mp H
    obtain ⟨t173, A170, H⟩ := H
    replace H : (some t173) = some r := H
    have A17 := Aside0.mk A170
    clear A170
    obtain rfl := Option.some.inj H
    go_wp2_with (first | ((with_reducible refine gate_callee (f := 64) rfl ?_); refine zg_ (some 71) Try.func64 #[.int .u64 0, .int .u64 t168, .bool ((decide (a0 < 0)) != (decide (a1 < 0)))] (h := ?_); (with_reducible refine (fix_held.calls kj10 0 t168 ((decide (a0 < 0)) != (decide (a1 < 0))) t173 _ A17.out).mono ?_); rintro e w' ⟨rfl, ⟨nd, rfl⟩⟩; refine ⟨_, rfl, ?_⟩))
    go_ret
    exact ⟨by first | rfl | (simp; done) | (simp [*]; done), by repeat (first | exact Drawn0.refl _ | apply Drawn0.step)⟩
   subst c14
   have H1 := H
   rw [if_pos rfl] at H1
   clear H
   have H := H1
   clear H1
   replace H := Option.bind_eq_some_iff.mp H
   obtain ⟨⟨t170, t171⟩, A150, H⟩ := H
   replace H : ((fix_held.f kj10 t171 t170 ((decide (a0 < 0)) != (decide (a1 < 0)))).bind fun t172 => (some t172)) = some r := H
   have A15 := Aside0.mk A150
   clear A150
   replace H := Option.bind_eq_some_iff.mp H
   obtain ⟨t172, A160, H⟩ := H
   replace H : (some t172) = some r := H
   have A16 := Aside0.mk A160
   clear A160
   obtain rfl := Option.some.inj H
   go_wp2_with (first | ((with_reducible refine gate_callee (f := 40) rfl ?_); refine goesX_ (some 65) rfl rfl (f := 40) #[.int .u64 t168, .int .u64 1, .int .u64 0] rfl (by (try simp only [List.map_toArray, List.map_cons, List.map_nil]); first | done | rfl | (simp only [List.length_drop, List.length_take]; rfl)) ?_; (with_reducible refine (bits_Add64.calls t168 1 0 t170 t171 _ A15.out).mono ?_); rintro e w' ⟨rfl, ⟨nd, rfl⟩⟩; refine ⟨_, rfl, ?_⟩) | ((with_reducible refine gate_callee (f := 64) rfl ?_); refine zg_ (some 71) Try.func64 #[.int .u64 t171, .int .u64 t170, .bool ((decide (a0 < 0)) != (decide (a1 < 0)))] (h := ?_); (with_reducible refine (fix_held.calls kj10 t171 t170 ((decide (a0 < 0)) != (decide (a1 < 0))) t172 _ A16.out).mono ?_); rintro e w' ⟨rfl, ⟨nd, rfl⟩⟩; refine ⟨_, rfl, ?_⟩))
   go_ret
   exact ⟨by first | rfl | (simp; done) | (simp [*]; done), by repeat (first | exact Drawn0.refl _ | apply Drawn0.step)⟩

/-! ### wide_magnitude: function 54 -/
def wide_magnitude.f (a0_0 : Int) (a0_1 : Int) : Option (Int × Int × Bool) := if a0_0 < 0 then ((wide_Neg.f a0_0 a0_1).bind fun bt175 => (some (IntKind.u64.wrap (bt175.1), bt175.2, true))) else (some (IntKind.u64.wrap (a0_0), a0_1, false))
set_option maxHeartbeats 8000000 in
set_option maxRecDepth 100000 in
theorem wide_magnitude.calls (a0_0 : Int) (a0_1 : Int) (r1 : Int) (r2 : Int) (r3 : Bool) (w : World) (h : wide_magnitude.f a0_0 a0_1 = some (r1, r2, r3)) :
  Calls Try.prog 54 #[.agg #[.int .i64 a0_0, .int .u64 a0_1]] w fun e w' => e = .returned (.tuple #[.int .u64 r1, .int .u64 r2, .bool r3]) ∧ Below w.heap.size w w' := by
 have hu25 := Try.underlying25
 have HB := Aside0.mk (Below.refl w.heap.size w)
 have H : (if a0_0 < 0 then ((wide_Neg.f a0_0 a0_1).bind fun bt175 => (some (IntKind.u64.wrap (bt175.1), bt175.2, true))) else (some (IntKind.u64.wrap (a0_0), a0_1, false))) = some (r1, r2, r3) := h
 clear h
 by_cases c2 : a0_0 < 0
 rotate_left
 ·rw [if_neg c2] at H
  have c2b0 : decide (a0_0 < 0) = false := decide_eq_false c2
  clear c2
  simp only [Option.some.injEq, Prod.mk.injEq] at H
  obtain ⟨rfl, rfl, rfl⟩ := H
  go_enter Try.func54, Try.ntmps54
  go_wp2_with (first | ((with_reducible refine gate_dst (N := 1) rfl ?_); refine box_event ?hg (N := 1) ?hd (cs := #[.int .i64 a0_0, .int .u64 a0_1]) (t := 25) ?hr ?_; (case hd => rfl); (case hg => rfl); (case hr => first | (go_simp; done) | (go_simp; rfl)); intro gb174 hg w10 hbox hb; have BK174 := Aside0.mk (hbox); have GW174 := Aside0.mk (zs_ hg (zw0_ HB)); have GE174 := Aside0.mk (zs_ hg (zw0_ HB)); replace HB := Aside0.mk (below_step (zw0_ HB) hb); clear hb hbox hg; have hcz11_0 := zx_ (v := .int .i64 a0_0) BK174 0; have hcz11_1 := zx_ (v := .int .u64 a0_1) BK174 1; have hfz11_0 := blk_frozen BK174.out 0; have hfz11_1 := blk_frozen BK174.out 1))
  repeat (go_quiet (first | ((with_reducible refine gate_dst (N := 1) rfl ?_); refine box_event ?hg (N := 1) ?hd (cs := #[.int .i64 a0_0, .int .u64 a0_1]) (t := 25) ?hr ?_; (case hd => rfl); (case hg => rfl); (case hr => first | (go_simp; done) | (go_simp; rfl)); intro gb174 hg w10 hbox hb; have BK174 := Aside0.mk (hbox); have GW174 := Aside0.mk (zs_ hg (zw0_ HB)); have GE174 := Aside0.mk (zs_ hg (zw0_ HB)); replace HB := Aside0.mk (below_step (zw0_ HB) hb); clear hb hbox hg; have hcz11_0 := zx_ (v := .int .i64 a0_0) BK174 0; have hcz11_1 := zx_ (v := .int .u64 a0_1) BK174 1; have hfz11_0 := blk_frozen BK174.out 0; have hfz11_1 := blk_frozen BK174.out 1)); try go_wp2_with (first | ((with_reducible refine gate_dst (N := 1) rfl ?_); refine box_event ?hg (N := 1) ?hd (cs := #[.int .i64 a0_0, .int .u64 a0_1]) (t := 25) ?hr ?_; (case hd => rfl); (case hg => rfl); (case hr => first | (go_simp; done) | (go_simp; rfl)); intro gb174 hg w10 hbox hb; have BK174 := Aside0.mk (hbox); have GW174 := Aside0.mk (zs_ hg (zw0_ HB)); have GE174 := Aside0.mk (zs_ hg (zw0_ HB)); replace HB := Aside0.mk (below_step (zw0_ HB) hb); clear hb hbox hg; have hcz11_0 := zx_ (v := .int .i64 a0_0) BK174 0; have hcz11_1 := zx_ (v := .int .u64 a0_1) BK174 1; have hfz11_0 := blk_frozen BK174.out 0; have hfz11_1 := blk_frozen BK174.out 1)))
  go_ret3
  exact ⟨z0_, zw1_ HB GE174⟩
 rw [if_pos c2] at H
 have c2b0 : decide (a0_0 < 0) = true := decide_eq_true c2
 clear c2
 replace H := Option.bind_eq_some_iff.mp H
 obtain ⟨⟨t175, t176⟩, A30, H⟩ := H
 replace H : (some (IntKind.u64.wrap (t175), t176, true)) = some (r1, r2, r3) := H
 have A3 := Aside0.mk A30
 clear A30
 simp only [Option.some.injEq, Prod.mk.injEq] at H
 obtain ⟨rfl, rfl, rfl⟩ := H
 go_enter Try.func54, Try.ntmps54
 go_wp2_with (first | ((with_reducible refine gate_dst (N := 1) rfl ?_); refine box_event ?hg (N := 1) ?hd (cs := #[.int .i64 a0_0, .int .u64 a0_1]) (t := 25) ?hr ?_; (case hd => rfl); (case hg => rfl); (case hr => first | (go_simp; done) | (go_simp; rfl)); intro gb174 hg w4 hbox hb; have BK174 := Aside0.mk (hbox); have GW174 := Aside0.mk (zs_ hg (zw0_ HB)); have GE174 := Aside0.mk (zs_ hg (zw0_ HB)); replace HB := Aside0.mk (below_step (zw0_ HB) hb); clear hb hbox hg; have hcz5_0 := zx_ (v := .int .i64 a0_0) BK174 0; have hcz5_1 := zx_ (v := .int .u64 a0_1) BK174 1; have hfz5_0 := blk_frozen BK174.out 0; have hfz5_1 := blk_frozen BK174.out 1) | (go_at_call 18; (with_reducible refine (wide_Neg.calls a0_0 a0_1 t175 t176 _ A3.out).mono ?_); rintro e w6 ⟨rfl, hb⟩; replace BK174 := za_ BK174 hb; replace HB := Aside0.mk (below_step (zw1_ HB GE174) hb); (try clear hb)) | ((with_reducible refine gate_dst (N := 5) rfl ?_); refine box_event ?hg (N := 5) ?hd (cs := #[.int .i64 0, .int .u64 0]) (t := 25) ?hr ?_; (case hd => rfl); (case hg => rfl); (case hr => first | (go_simp; done) | (go_simp; rfl)); intro gb177 hg w7 hbox hb; have BK177 := Aside0.mk (hbox); have GW177 := Aside0.mk (zs_ hg (zw1_ HB GE174)); have GE177 := Aside0.mk (zs_ hg (zw1_ HB GE174)); replace HB := Aside0.mk (below_step (zw1_ HB GE174) hb); have NB174_177 := Aside0.mk (zn_ hg BK174); have NB177_174 := Aside0.mk (zm_ hg BK174); replace BK174 := za_ BK174 hb; clear hb hbox hg; have hnb8 := NB177_174.out; have hnc8 := NB174_177.out; have hcz9_0 := zx_ (v := .int .i64 0) BK177 0; have hcz9_1 := zx_ (v := .int .u64 0) BK177 1; have hfz9_0 := blk_frozen BK177.out 0; have hfz9_1 := blk_frozen BK177.out 1))
 repeat (go_quiet (first | ((with_reducible refine gate_dst (N := 1) rfl ?_); refine box_event ?hg (N := 1) ?hd (cs := #[.int .i64 a0_0, .int .u64 a0_1]) (t := 25) ?hr ?_; (case hd => rfl); (case hg => rfl); (case hr => first | (go_simp; done) | (go_simp; rfl)); intro gb174 hg w4 hbox hb; have BK174 := Aside0.mk (hbox); have GW174 := Aside0.mk (zs_ hg (zw0_ HB)); have GE174 := Aside0.mk (zs_ hg (zw0_ HB)); replace HB := Aside0.mk (below_step (zw0_ HB) hb); clear hb hbox hg; have hcz5_0 := zx_ (v := .int .i64 a0_0) BK174 0; have hcz5_1 := zx_ (v := .int .u64 a0_1) BK174 1; have hfz5_0 := blk_frozen BK174.out 0; have hfz5_1 := blk_frozen BK174.out 1) | (go_at_call 18; (with_reducible refine (wide_Neg.calls a0_0 a0_1 t175 t176 _ A3.out).mono ?_); clear A3; rintro e w6 ⟨rfl, hb⟩; replace BK174 := za_ BK174 hb; replace HB := Aside0.mk (below_step (zw1_ HB GE174) hb); (try clear hb)) | ((with_reducible refine gate_dst (N := 5) rfl ?_); refine box_event ?hg (N := 5) ?hd (cs := #[.int .i64 0, .int .u64 0]) (t := 25) ?hr ?_; (case hd => rfl); (case hg => rfl); (case hr => first | (go_simp; done) | (go_simp; rfl)); intro gb177 hg w7 hbox hb; have BK177 := Aside0.mk (hbox); have GW177 := Aside0.mk (zs_ hg (zw1_ HB GE174)); have GE177 := Aside0.mk (zs_ hg (zw1_ HB GE174)); replace HB := Aside0.mk (below_step (zw1_ HB GE174) hb); have NB174_177 := Aside0.mk (zn_ hg BK174); have NB177_174 := Aside0.mk (zm_ hg BK174); replace BK174 := za_ BK174 hb; clear hb hbox hg; have hnb8 := NB177_174.out; have hnc8 := NB174_177.out; have hcz9_0 := zx_ (v := .int .i64 0) BK177 0; have hcz9_1 := zx_ (v := .int .u64 0) BK177 1; have hfz9_0 := blk_frozen BK177.out 0; have hfz9_1 := blk_frozen BK177.out 1)); try go_wp2_with (first | ((with_reducible refine gate_dst (N := 1) rfl ?_); refine box_event ?hg (N := 1) ?hd (cs := #[.int .i64 a0_0, .int .u64 a0_1]) (t := 25) ?hr ?_; (case hd => rfl); (case hg => rfl); (case hr => first | (go_simp; done) | (go_simp; rfl)); intro gb174 hg w4 hbox hb; have BK174 := Aside0.mk (hbox); have GW174 := Aside0.mk (zs_ hg (zw0_ HB)); have GE174 := Aside0.mk (zs_ hg (zw0_ HB)); replace HB := Aside0.mk (below_step (zw0_ HB) hb); clear hb hbox hg; have hcz5_0 := zx_ (v := .int .i64 a0_0) BK174 0; have hcz5_1 := zx_ (v := .int .u64 a0_1) BK174 1; have hfz5_0 := blk_frozen BK174.out 0; have hfz5_1 := blk_frozen BK174.out 1) | (go_at_call 18; (with_reducible refine (wide_Neg.calls a0_0 a0_1 t175 t176 _ A3.out).mono ?_); clear A3; rintro e w6 ⟨rfl, hb⟩; replace BK174 := za_ BK174 hb; replace HB := Aside0.mk (below_step (zw1_ HB GE174) hb); (try clear hb)) | ((with_reducible refine gate_dst (N := 5) rfl ?_); refine box_event ?hg (N := 5) ?hd (cs := #[.int .i64 0, .int .u64 0]) (t := 25) ?hr ?_; (case hd => rfl); (case hg => rfl); (case hr => first | (go_simp; done) | (go_simp; rfl)); intro gb177 hg w7 hbox hb; have BK177 := Aside0.mk (hbox); have GW177 := Aside0.mk (zs_ hg (zw1_ HB GE174)); have GE177 := Aside0.mk (zs_ hg (zw1_ HB GE174)); replace HB := Aside0.mk (below_step (zw1_ HB GE174) hb); have NB174_177 := Aside0.mk (zn_ hg BK174); have NB177_174 := Aside0.mk (zm_ hg BK174); replace BK174 := za_ BK174 hb; clear hb hbox hg; have hnb8 := NB177_174.out; have hnc8 := NB174_177.out; have hcz9_0 := zx_ (v := .int .i64 0) BK177 0; have hcz9_1 := zx_ (v := .int .u64 0) BK177 1; have hfz9_0 := blk_frozen BK177.out 0; have hfz9_1 := blk_frozen BK177.out 1)))
 go_ret3
 exact ⟨z0_, zw2_ HB GE174 GE177⟩

/-! ### wide_Over: function 34 -/
mutual
def wide_Over.j0 : Nat → Bool → Int → Int → Bool → Option (Int)
 | 0, _, _, _, _ => none
 | k + 1, x7, x9, x11, x61 => if x61 = true then ((bits_Add64.f x11 1 0).bind fun bt187 => (wide_Over.j1 k x7 (IntKind.u64.wrap (x9 + bt187.2)) bt187.1)) else (wide_Over.j1 k x7 x9 x11)
def wide_Over.j1 : Nat → Bool → Int → Int → Option (Int)
 | 0, _, _, _ => none
 | k + 1, x7, x9, x11 => if x7 = true then ((wide_Neg.f (wrap64 (mn x9 9223372036854775807)) x11).bind fun bt190 => ((wide_Fix.f k bt190.1 bt190.2).bind fun t192 => (some t192))) else ((wide_Fix.f k (wrap64 (mn x9 9223372036854775807)) x11).bind fun t193 => (some t193))
end
def wide_Over.f (k : Nat) (a0_0 : Int) (a0_1 : Int) (a1 : Int) : Option (Int) := if a1 = 0 then ((wide_Cmp.f k a0_0 a0_1 0 0).bind fun t179 => ((fix_Div.f k t179 0).bind fun t180 => (some t180))) else ((wide_magnitude.f a0_0 a0_1).bind fun bt181 => ((wide_size.f a1).bind fun t184 => (if t184 = 0 then (none) else ((bits_Div64.f k (Int.tmod bt181.1 t184) bt181.2.1 t184).bind fun bt185 => (if bt185.2 > (IntKind.u64.wrap (t184 - bt185.2)) then (wide_Over.j0 k (bt181.2.2 != (decide (a1 < 0))) (IntKind.u64.wrap (Int.tdiv bt181.1 t184)) bt185.1 true) else (if bt185.2 = (IntKind.u64.wrap (t184 - bt185.2)) then (wide_Over.j0 k (bt181.2.2 != (decide (a1 < 0))) (IntKind.u64.wrap (Int.tdiv bt181.1 t184)) bt185.1 ((Go.bits .and .u64 bt185.1 1) == 1)) else (wide_Over.j0 k (bt181.2.2 != (decide (a1 < 0))) (IntKind.u64.wrap (Int.tdiv bt181.1 t184)) bt185.1 false)))))))
theorem wide_Over.mono_l : ∀ k, (∀ y0 y1 y2 y3, LeO (wide_Over.j0 k y0 y1 y2 y3) (wide_Over.j0 (k + 1) y0 y1 y2 y3)) ∧ (∀ y0 y1 y2, LeO (wide_Over.j1 k y0 y1 y2) (wide_Over.j1 (k + 1) y0 y1 y2))
 | 0 => ⟨fun _ _ _ _ r h => by simp [wide_Over.j0] at h, fun _ _ _ r h => by simp [wide_Over.j1] at h⟩
 | k + 1 => by
  obtain ⟨ih0, ih1⟩ := wide_Over.mono_l k
  refine ⟨?_, ?_⟩
  ·intro y0 y1 y2 y3
   unfold wide_Over.j0
   repeat' first
   | (with_reducible exact ih0 _ _ _ _)
   | (with_reducible exact ih1 _ _ _)
   | (with_reducible exact LeO.refl _)
   | (with_reducible exact LeO.none _)
   | (with_reducible refine LeO.ite ?_ ?_)
   | (with_reducible refine LeO.bind ?_ (fun _ => ?_))
   | exact ih0 _ _ _ _
   | exact ih1 _ _ _
   | exact LeO.none _
   | refine LeO.ite ?_ ?_
   | refine LeO.bind ?_ (fun _ => ?_)
  ·intro y0 y1 y2
   unfold wide_Over.j1
   repeat' first
   | (with_reducible exact ih0 _ _ _ _)
   | (with_reducible exact ih1 _ _ _)
   | (with_reducible exact wide_Fix.mono _ _ _)
   | (with_reducible exact LeO.refl _)
   | (with_reducible exact LeO.none _)
   | (with_reducible refine LeO.ite ?_ ?_)
   | (with_reducible refine LeO.bind ?_ (fun _ => ?_))
   | exact ih0 _ _ _ _
   | exact ih1 _ _ _
   | exact wide_Fix.mono _ _ _
   | exact LeO.none _
   | refine LeO.ite ?_ ?_
   | refine LeO.bind ?_ (fun _ => ?_)
theorem wide_Over.mono : ∀ a0 a1 a2 k, LeO (wide_Over.f k a0 a1 a2) (wide_Over.f (k + 1) a0 a1 a2) := by
 intro a0 a1 a2 k
 obtain ⟨ih0, ih1⟩ := wide_Over.mono_l k
 unfold wide_Over.f
 repeat' first
   | (with_reducible exact ih0 _ _ _ _)
   | (with_reducible exact ih1 _ _ _)
   | (with_reducible exact bits_Div64.mono _ _ _ _)
   | (with_reducible exact fix_Div.mono _ _ _)
   | (with_reducible exact wide_Cmp.mono _ _ _ _ _)
   | (with_reducible exact LeO.refl _)
   | (with_reducible exact LeO.none _)
   | (with_reducible refine LeO.ite ?_ ?_)
   | (with_reducible refine LeO.bind ?_ (fun _ => ?_))
   | exact ih0 _ _ _ _
   | exact ih1 _ _ _
   | exact bits_Div64.mono _ _ _ _
   | exact fix_Div.mono _ _ _
   | exact wide_Cmp.mono _ _ _ _ _
   | exact LeO.none _
   | refine LeO.ite ?_ ?_
   | refine LeO.bind ?_ (fun _ => ?_)
set_option maxHeartbeats 8000000 in
set_option maxRecDepth 100000 in
theorem wide_Over.calls (k : Nat) (a0_0 : Int) (a0_1 : Int) (a1 : Int) (r : Int) (w : World) (h : wide_Over.f k a0_0 a0_1 a1 = some r) :
  Calls Try.prog 34 #[.agg #[.int .i64 a0_0, .int .u64 a0_1], .int .i64 a1] w fun e w' => e = .returned (.int .i64 r) ∧ Below w.heap.size w w' := by
 have hu25 := Try.underlying25
 have HB := Aside0.mk (Below.refl w.heap.size w)
 have H : (if a1 = 0 then ((wide_Cmp.f k a0_0 a0_1 0 0).bind fun t179 => ((fix_Div.f k t179 0).bind fun t180 => (some t180))) else ((wide_magnitude.f a0_0 a0_1).bind fun bt181 => ((wide_size.f a1).bind fun t184 => (if t184 = 0 then (none) else ((bits_Div64.f k (Int.tmod bt181.1 t184) bt181.2.1 t184).bind fun bt185 => (if bt185.2 > (IntKind.u64.wrap (t184 - bt185.2)) then (wide_Over.j0 k (bt181.2.2 != (decide (a1 < 0))) (IntKind.u64.wrap (Int.tdiv bt181.1 t184)) bt185.1 true) else (if bt185.2 = (IntKind.u64.wrap (t184 - bt185.2)) then (wide_Over.j0 k (bt181.2.2 != (decide (a1 < 0))) (IntKind.u64.wrap (Int.tdiv bt181.1 t184)) bt185.1 ((Go.bits .and .u64 bt185.1 1) == 1)) else (wide_Over.j0 k (bt181.2.2 != (decide (a1 < 0))) (IntKind.u64.wrap (Int.tdiv bt181.1 t184)) bt185.1 false)))))))) = some r := h
 clear h
 by_cases c3 : a1 = 0
 ·rw [if_pos c3] at H
  have c3b0 : (a1 == 0) = true := beq_iff_eq.mpr c3
  have c3b1 : (a1 != 0) = false := bne_eq_false_iff_eq.mpr c3
  clear c3
  replace H := Option.bind_eq_some_iff.mp H
  obtain ⟨t179, A40, H⟩ := H
  replace H : ((fix_Div.f k t179 0).bind fun t180 => (some t180)) = some r := H
  have A4 := Aside0.mk A40
  clear A40
  replace H := Option.bind_eq_some_iff.mp H
  obtain ⟨t180, A50, H⟩ := H
  replace H : (some t180) = some r := H
  have A5 := Aside0.mk A50
  clear A50
  obtain rfl := Option.some.inj H
  go_enter Try.func34, Try.ntmps34
  go_wp2_with (first | ((with_reducible refine gate_dst (N := 2) rfl ?_); refine box_event ?hg (N := 2) ?hd (cs := #[.int .i64 a0_0, .int .u64 a0_1]) (t := 25) ?hr ?_; (case hd => rfl); (case hg => rfl); (case hr => first | (go_simp; done) | (go_simp; rfl)); intro gb178 hg w6 hbox hb; have BK178 := Aside0.mk (hbox); have GW178 := Aside0.mk (zs_ hg (zw0_ HB)); have GE178 := Aside0.mk (zs_ hg (zw0_ HB)); replace HB := Aside0.mk (below_step (zw0_ HB) hb); clear hb hbox hg; have hcz7_0 := zx_ (v := .int .i64 a0_0) BK178 0; have hcz7_1 := zx_ (v := .int .u64 a0_1) BK178 1; have hfz7_0 := blk_frozen BK178.out 0; have hfz7_1 := blk_frozen BK178.out 1) | (go_at_call 24; (with_reducible refine (wide_Cmp.calls k a0_0 a0_1 0 0 t179 _ A4.out).mono ?_); rintro e w8 ⟨rfl, hb⟩; replace BK178 := za_ BK178 hb; replace HB := Aside0.mk (below_step (zw1_ HB GE178) hb); (try clear hb)) | (go_at_call 53; (with_reducible refine (fix_Div.calls k t179 0 t180 _ A5.out).mono ?_); rintro e w' ⟨rfl, ⟨nd, rfl⟩⟩; (try first | exact ⟨rfl, _, World.drewN_drewN _ _ _⟩ | exact ⟨rfl, _, Eq.trans (World.drewN_drewN _ _ _) (congrArg (World.drewN _) (Nat.add_assoc _ _ _))⟩)))
  repeat (go_quiet (first | ((with_reducible refine gate_dst (N := 2) rfl ?_); refine box_event ?hg (N := 2) ?hd (cs := #[.int .i64 a0_0, .int .u64 a0_1]) (t := 25) ?hr ?_; (case hd => rfl); (case hg => rfl); (case hr => first | (go_simp; done) | (go_simp; rfl)); intro gb178 hg w6 hbox hb; have BK178 := Aside0.mk (hbox); have GW178 := Aside0.mk (zs_ hg (zw0_ HB)); have GE178 := Aside0.mk (zs_ hg (zw0_ HB)); replace HB := Aside0.mk (below_step (zw0_ HB) hb); clear hb hbox hg; have hcz7_0 := zx_ (v := .int .i64 a0_0) BK178 0; have hcz7_1 := zx_ (v := .int .u64 a0_1) BK178 1; have hfz7_0 := blk_frozen BK178.out 0; have hfz7_1 := blk_frozen BK178.out 1) | (go_at_call 24; (with_reducible refine (wide_Cmp.calls k a0_0 a0_1 0 0 t179 _ A4.out).mono ?_); clear A4; rintro e w8 ⟨rfl, hb⟩; replace BK178 := za_ BK178 hb; replace HB := Aside0.mk (below_step (zw1_ HB GE178) hb); (try clear hb)) | (go_at_call 53; (with_reducible refine (fix_Div.calls k t179 0 t180 _ A5.out).mono ?_); clear A5; rintro e w' ⟨rfl, ⟨nd, rfl⟩⟩; (try first | exact ⟨rfl, _, World.drewN_drewN _ _ _⟩ | exact ⟨rfl, _, Eq.trans (World.drewN_drewN _ _ _) (congrArg (World.drewN _) (Nat.add_assoc _ _ _))⟩))); try go_wp2_with (first | ((with_reducible refine gate_dst (N := 2) rfl ?_); refine box_event ?hg (N := 2) ?hd (cs := #[.int .i64 a0_0, .int .u64 a0_1]) (t := 25) ?hr ?_; (case hd => rfl); (case hg => rfl); (case hr => first | (go_simp; done) | (go_simp; rfl)); intro gb178 hg w6 hbox hb; have BK178 := Aside0.mk (hbox); have GW178 := Aside0.mk (zs_ hg (zw0_ HB)); have GE178 := Aside0.mk (zs_ hg (zw0_ HB)); replace HB := Aside0.mk (below_step (zw0_ HB) hb); clear hb hbox hg; have hcz7_0 := zx_ (v := .int .i64 a0_0) BK178 0; have hcz7_1 := zx_ (v := .int .u64 a0_1) BK178 1; have hfz7_0 := blk_frozen BK178.out 0; have hfz7_1 := blk_frozen BK178.out 1) | (go_at_call 24; (with_reducible refine (wide_Cmp.calls k a0_0 a0_1 0 0 t179 _ A4.out).mono ?_); clear A4; rintro e w8 ⟨rfl, hb⟩; replace BK178 := za_ BK178 hb; replace HB := Aside0.mk (below_step (zw1_ HB GE178) hb); (try clear hb)) | (go_at_call 53; (with_reducible refine (fix_Div.calls k t179 0 t180 _ A5.out).mono ?_); clear A5; rintro e w' ⟨rfl, ⟨nd, rfl⟩⟩; (try first | exact ⟨rfl, _, World.drewN_drewN _ _ _⟩ | exact ⟨rfl, _, Eq.trans (World.drewN_drewN _ _ _) (congrArg (World.drewN _) (Nat.add_assoc _ _ _))⟩))))
  go_ret
  exact ⟨z0_, zw1_ HB GE178⟩
 rw [if_neg c3] at H
 have c3b0 : (a1 == 0) = false := beq_eq_false_iff_ne.mpr c3
 have c3b1 : (a1 != 0) = true := bne_iff_ne.mpr c3
 replace H := Option.bind_eq_some_iff.mp H
 obtain ⟨⟨t181, t182, t183⟩, A90, H⟩ := H
 (try dsimp only at H)
 have A9 := Aside0.mk A90
 clear A90
 replace H := Option.bind_eq_some_iff.mp H
 obtain ⟨t184, A100, H⟩ := H
 (try dsimp only at H)
 have A10 := Aside0.mk A100
 clear A100
 by_cases c11 : t184 = 0
 ·rw [if_pos c11] at H
  exact absurd H (by simp)
 rw [if_neg c11] at H
 have c11b0 : (t184 == 0) = false := beq_eq_false_iff_ne.mpr c11
 have c11b1 : (t184 != 0) = true := bne_iff_ne.mpr c11
 replace H := Option.bind_eq_some_iff.mp H
 obtain ⟨⟨t185, t186⟩, A120, H⟩ := H
 (try dsimp only at H)
 have A12 := Aside0.mk A120
 clear A120
 have HC13 := Aside0.mk H
 clear H
 go_enter Try.func34, Try.ntmps34
 go_upto_region 8 with (first | ((with_reducible refine gate_dst (N := 2) rfl ?_); refine box_event ?hg (N := 2) ?hd (cs := #[.int .i64 a0_0, .int .u64 a0_1]) (t := 25) ?hr ?_; (case hd => rfl); (case hg => rfl); (case hr => first | (go_simp; done) | (go_simp; rfl)); intro gb178 hg w14 hbox hb; have BK178 := Aside0.mk (hbox); have GW178 := Aside0.mk (zs_ hg (zw0_ HB)); have GE178 := Aside0.mk (zs_ hg (zw0_ HB)); replace HB := Aside0.mk (below_step (zw0_ HB) hb); clear hb hbox hg; have hcz15_0 := zx_ (v := .int .i64 a0_0) BK178 0; have hcz15_1 := zx_ (v := .int .u64 a0_1) BK178 1; have hfz15_0 := blk_frozen BK178.out 0; have hfz15_1 := blk_frozen BK178.out 1) | (go_at_call 54; (with_reducible refine (wide_magnitude.calls a0_0 a0_1 t181 t182 t183 _ A9.out).mono ?_); rintro e w16 ⟨rfl, hb⟩; replace BK178 := za_ BK178 hb; replace HB := Aside0.mk (below_step (zw1_ HB GE178) hb); (try clear hb)) | (go_at_call 37; (with_reducible refine (wide_size.calls a1 t184 _ A10.out).mono ?_); rintro e w' ⟨rfl, ⟨nd, rfl⟩⟩; (try first | exact ⟨rfl, _, World.drewN_drewN _ _ _⟩ | exact ⟨rfl, _, Eq.trans (World.drewN_drewN _ _ _) (congrArg (World.drewN _) (Nat.add_assoc _ _ _))⟩)) | (go_at_call 55; (with_reducible refine (bits_Div64.calls k (Int.tmod t181 t184) t182 t184 t185 t186 _ A12.out).mono ?_); rintro e w' ⟨rfl, ⟨nd, rfl⟩⟩; (try first | exact ⟨rfl, _, World.drewN_drewN _ _ _⟩ | exact ⟨rfl, _, Eq.trans (World.drewN_drewN _ _ _) (congrArg (World.drewN _) (Nat.add_assoc _ _ _))⟩)))
 repeat (go_quiet (first | ((with_reducible refine gate_dst (N := 2) rfl ?_); refine box_event ?hg (N := 2) ?hd (cs := #[.int .i64 a0_0, .int .u64 a0_1]) (t := 25) ?hr ?_; (case hd => rfl); (case hg => rfl); (case hr => first | (go_simp; done) | (go_simp; rfl)); intro gb178 hg w14 hbox hb; have BK178 := Aside0.mk (hbox); have GW178 := Aside0.mk (zs_ hg (zw0_ HB)); have GE178 := Aside0.mk (zs_ hg (zw0_ HB)); replace HB := Aside0.mk (below_step (zw0_ HB) hb); clear hb hbox hg; have hcz15_0 := zx_ (v := .int .i64 a0_0) BK178 0; have hcz15_1 := zx_ (v := .int .u64 a0_1) BK178 1; have hfz15_0 := blk_frozen BK178.out 0; have hfz15_1 := blk_frozen BK178.out 1) | (go_at_call 54; (with_reducible refine (wide_magnitude.calls a0_0 a0_1 t181 t182 t183 _ A9.out).mono ?_); rintro e w16 ⟨rfl, hb⟩; replace BK178 := za_ BK178 hb; replace HB := Aside0.mk (below_step (zw1_ HB GE178) hb); (try clear hb)) | (go_at_call 37; (with_reducible refine (wide_size.calls a1 t184 _ A10.out).mono ?_); rintro e w' ⟨rfl, ⟨nd, rfl⟩⟩; (try first | exact ⟨rfl, _, World.drewN_drewN _ _ _⟩ | exact ⟨rfl, _, Eq.trans (World.drewN_drewN _ _ _) (congrArg (World.drewN _) (Nat.add_assoc _ _ _))⟩)) | (go_at_call 55; (with_reducible refine (bits_Div64.calls k (Int.tmod t181 t184) t182 t184 t185 t186 _ A12.out).mono ?_); rintro e w' ⟨rfl, ⟨nd, rfl⟩⟩; (try first | exact ⟨rfl, _, World.drewN_drewN _ _ _⟩ | exact ⟨rfl, _, Eq.trans (World.drewN_drewN _ _ _) (congrArg (World.drewN _) (Nat.add_assoc _ _ _))⟩))); go_upto_region 8 with (first | ((with_reducible refine gate_dst (N := 2) rfl ?_); refine box_event ?hg (N := 2) ?hd (cs := #[.int .i64 a0_0, .int .u64 a0_1]) (t := 25) ?hr ?_; (case hd => rfl); (case hg => rfl); (case hr => first | (go_simp; done) | (go_simp; rfl)); intro gb178 hg w14 hbox hb; have BK178 := Aside0.mk (hbox); have GW178 := Aside0.mk (zs_ hg (zw0_ HB)); have GE178 := Aside0.mk (zs_ hg (zw0_ HB)); replace HB := Aside0.mk (below_step (zw0_ HB) hb); clear hb hbox hg; have hcz15_0 := zx_ (v := .int .i64 a0_0) BK178 0; have hcz15_1 := zx_ (v := .int .u64 a0_1) BK178 1; have hfz15_0 := blk_frozen BK178.out 0; have hfz15_1 := blk_frozen BK178.out 1) | (go_at_call 54; (with_reducible refine (wide_magnitude.calls a0_0 a0_1 t181 t182 t183 _ A9.out).mono ?_); rintro e w16 ⟨rfl, hb⟩; replace BK178 := za_ BK178 hb; replace HB := Aside0.mk (below_step (zw1_ HB GE178) hb); (try clear hb)) | (go_at_call 37; (with_reducible refine (wide_size.calls a1 t184 _ A10.out).mono ?_); rintro e w' ⟨rfl, ⟨nd, rfl⟩⟩; (try first | exact ⟨rfl, _, World.drewN_drewN _ _ _⟩ | exact ⟨rfl, _, Eq.trans (World.drewN_drewN _ _ _) (congrArg (World.drewN _) (Nat.add_assoc _ _ _))⟩)) | (go_at_call 55; (with_reducible refine (bits_Div64.calls k (Int.tmod t181 t184) t182 t184 t185 t186 _ A12.out).mono ?_); rintro e w' ⟨rfl, ⟨nd, rfl⟩⟩; (try first | exact ⟨rfl, _, World.drewN_drewN _ _ _⟩ | exact ⟨rfl, _, Eq.trans (World.drewN_drewN _ _ _) (congrArg (World.drewN _) (Nat.add_assoc _ _ _))⟩))))
 (try simp only [Act.put, List.setIfInBounds_toArray, List.set_cons_zero, List.set_cons_succ])
 go_cut [61] (fun v61 wc => ∃ (kq : Nat) (x61_12 : Bool), v61 = .bool x61_12 ∧ Aside0 (wide_Over.j0 kq (t183 != (decide (a1 < 0))) (IntKind.u64.wrap (Int.tdiv t181 t184)) t185 x61_12 = some r) ∧ Aside0 (kq ≤ k) ∧ Aside0 (wc.heap[gb178]? = some (.cells #[.int .i64 a0_0, .int .u64 a0_1] 25 (0, 0))) ∧ Aside0 (Below w.heap.size w wc))
 case first =>
  have H := HC13.out
  clear HC13
  by_cases c17 : t186 > (IntKind.u64.wrap (t184 - t186))
  ·rw [if_pos c17] at H
   have c17b0 : decide ((IntKind.u64.wrap (t184 - t186)) < t186) = true := decide_eq_true c17
   clear c17
   (first | rw [c17b0] | (simp only [i64_w, i32_w]; rw [c17b0]) | skip)
   have H' := Aside0.mk H
   clear H
   go_wp2
   repeat (go_quiet (fail); try go_wp2)
   go_meet
   case rel => exact ⟨_, (true), z1_, H', ⟨by first | omega | exact Nat.le_refl _⟩, ⟨zb_ BK178⟩, ⟨zw1_ HB GE178⟩⟩
  rw [if_neg c17] at H
  have c17b0 : decide ((IntKind.u64.wrap (t184 - t186)) < t186) = false := decide_eq_false c17
  clear c17
  (first | rw [c17b0] | (simp only [i64_w, i32_w]; rw [c17b0]) | skip)
  by_cases c18 : t186 = (IntKind.u64.wrap (t184 - t186))
  rotate_left
  ·rw [if_neg c18] at H
   have c18b0 : (t186 == (IntKind.u64.wrap (t184 - t186))) = false := beq_eq_false_iff_ne.mpr c18
   have c18b1 : (t186 != (IntKind.u64.wrap (t184 - t186))) = true := bne_iff_ne.mpr c18
   have H' := Aside0.mk H
   clear H
   go_wp2
   repeat (go_quiet (fail); try go_wp2)
   go_meet
   case rel => exact ⟨_, (false), z1_, H', ⟨by first | omega | exact Nat.le_refl _⟩, ⟨zb_ BK178⟩, ⟨zw1_ HB GE178⟩⟩
  rw [if_pos c18] at H
  have c18b0 : (t186 == (IntKind.u64.wrap (t184 - t186))) = true := beq_iff_eq.mpr c18
  have c18b1 : (t186 != (IntKind.u64.wrap (t184 - t186))) = false := bne_eq_false_iff_eq.mpr c18
  clear c18
  have H' := Aside0.mk H
  clear H
  go_wp2
  repeat (go_quiet (fail); try go_wp2)
  go_meet
  case rel => exact ⟨_, (((Go.bits .and .u64 t185 1) == 1)), z1_, H', ⟨by first | omega | exact Nat.le_refl _⟩, ⟨zb_ BK178⟩, ⟨zw1_ HB GE178⟩⟩
 case rest =>
  clear HC13
  try clear c1
  try clear p2
  try clear c3
  try clear c3b0
  try clear c3b1
  try clear c11
  try clear c11b0
  try clear c11b1
  try clear c17
  try clear c17b0
  try clear c18
  try clear c18b0
  try clear c18b1
  try clear hcz15_0
  try clear hcz15_1
  try clear hcz7_0
  try clear hcz7_1
  try clear hfz15_0
  try clear hfz15_1
  try clear hfz7_0
  try clear hfz7_1
  obtain ⟨kq, x61_12, rfl, HA, HJ12, BK178, HB⟩ := hcut
  cases kq with
  | zero => exact absurd HA.out (by simp [wide_Over.j0])
  | succ kj12 =>
   have H := HA.out
   clear HA
   simp only [wide_Over.j0] at H
   have HC19 := Aside0.mk H
   clear H
   go_upto_if 61 with (fail)
   repeat (go_quiet (fail); go_upto_if 61 with (fail))
   go_cut [9, 11] (fun v9 v11 wc => ∃ (kq : Nat) (x9_18 : Int) (x11_18 : Int), v9 = .int .u64 x9_18 ∧ v11 = .int .u64 x11_18 ∧ Aside0 (wide_Over.j1 kq (t183 != (decide (a1 < 0))) x9_18 x11_18 = some r) ∧ Aside0 (kq ≤ kj12) ∧ Aside0 (wc.heap[gb178]? = some (.cells #[.int .i64 a0_0, .int .u64 a0_1] 25 (0, 0))) ∧ Aside0 (Below w.heap.size w wc))
   case first =>
    have H := HC19.out
    clear HC19
    by_cases c20 : x61_12 = true
    rotate_left
    ·replace c20 := Bool.eq_false_iff.mpr c20
     subst c20
     have H1 := H
     rw [if_neg (show ¬ (false = true) by decide)] at H1
     clear H
     have H := H1
     clear H1
     have H' := Aside0.mk H
     clear H
     go_wp2
     repeat (go_quiet (fail); try go_wp2)
     go_meet
     case rel => exact ⟨_, ((IntKind.u64.wrap (Int.tdiv t181 t184))), (t185), z1_, z1_, H', ⟨by have := HJ12.out; first | omega | exact Nat.le_refl _⟩, ⟨zb_ BK178⟩, ⟨zw1_ HB GE178⟩⟩
    subst c20
    have H1 := H
    rw [if_pos rfl] at H1
    clear H
    have H := H1
    clear H1
    replace H := Option.bind_eq_some_iff.mp H
    obtain ⟨⟨t187, t188⟩, A210, H⟩ := H
    replace H : (wide_Over.j1 kj12 (t183 != (decide (a1 < 0))) (IntKind.u64.wrap ((IntKind.u64.wrap (Int.tdiv t181 t184)) + t188)) t187) = some r := H
    have A21 := Aside0.mk A210
    clear A210
    have H' := Aside0.mk H
    clear H
    go_wp2_with (first | ((with_reducible refine gate_callee (f := 40) rfl ?_); refine goesX_ _ rfl rfl (f := 40) #[.int .u64 t185, .int .u64 1, .int .u64 0] rfl (by (try simp only [List.map_toArray, List.map_cons, List.map_nil]); first | done | rfl) ?_; (with_reducible refine (bits_Add64.calls t185 1 0 t187 t188 _ A21.out).mono ?_); rintro e w' ⟨rfl, ⟨nd, rfl⟩⟩; refine ⟨_, rfl, ?_⟩))
    repeat (go_quiet (first | ((with_reducible refine gate_callee (f := 40) rfl ?_); refine goesX_ _ rfl rfl (f := 40) #[.int .u64 t185, .int .u64 1, .int .u64 0] rfl (by (try simp only [List.map_toArray, List.map_cons, List.map_nil]); first | done | rfl) ?_; (with_reducible refine (bits_Add64.calls t185 1 0 t187 t188 _ A21.out).mono ?_); clear A21; rintro e w' ⟨rfl, ⟨nd, rfl⟩⟩; refine ⟨_, rfl, ?_⟩)); try go_wp2_with (first | ((with_reducible refine gate_callee (f := 40) rfl ?_); refine goesX_ _ rfl rfl (f := 40) #[.int .u64 t185, .int .u64 1, .int .u64 0] rfl (by (try simp only [List.map_toArray, List.map_cons, List.map_nil]); first | done | rfl) ?_; (with_reducible refine (bits_Add64.calls t185 1 0 t187 t188 _ A21.out).mono ?_); clear A21; rintro e w' ⟨rfl, ⟨nd, rfl⟩⟩; refine ⟨_, rfl, ?_⟩)))
    go_meet
    case rel => exact ⟨_, (IntKind.u64.wrap ((IntKind.u64.wrap (Int.tdiv t181 t184)) + t188)), (t187), z1_, z1_, H', ⟨by have := HJ12.out; first | omega | exact Nat.le_refl _⟩, ⟨zb_ BK178⟩, ⟨zw1_ HB GE178⟩⟩
   case rest =>
    clear HC19
    try clear c1
    try clear c2
    try clear p2
    try clear c3
    try clear c3b0
    try clear c3b1
    try clear c11
    try clear c11b0
    try clear c11b1
    try clear c17
    try clear c17b0
    try clear c18
    try clear c18b0
    try clear c18b1
    try clear c20
    try clear hcz15_0
    try clear hcz15_1
    try clear hcz7_0
    try clear hcz7_1
    try clear hfz15_0
    try clear hfz15_1
    try clear hfz7_0
    try clear hfz7_1
    try clear p2
    obtain ⟨kq, x9_18, x11_18, rfl, rfl, HA, HJ18, BK178, HB⟩ := hcut
    cases kq with
    | zero => exact absurd HA.out (by simp [wide_Over.j1])
    | succ kj18 =>
     have H := HA.out
     clear HA
     simp only [wide_Over.j1] at H
     obtain ⟨ji22, hji22⟩ : ∃ j_ : Int, (mn x9_18 9223372036854775807) = j_ := ⟨_, rfl⟩
     replace H : (if (t183 != (decide (a1 < 0))) = true then ((wide_Neg.f (wrap64 (ji22)) x11_18).bind fun bt190 => ((wide_Fix.f kj18 bt190.1 bt190.2).bind fun t192 => (some t192))) else ((wide_Fix.f kj18 (wrap64 (ji22)) x11_18).bind fun t193 => (some t193))) = some r := by first | (rw [hji22] at H; exact H) | (simp only [hji22] at H ⊢; exact H)
     have hji22_ : (if 9223372036854775807 < x9_18 then 9223372036854775807 else x9_18) = ji22 := hji22
     by_cases c23 : (t183 != (decide (a1 < 0))) = true
     rotate_left
     ·rw [if_neg c23] at H
      have c23b0 : (t183 != (decide (a1 < 0))) = false := by simpa using c23
      (try (have c23b1 : decide (t183 = (decide (a1 < 0))) = true := by simpa using c23))
      (try (have c23b2 : (t183 == (decide (a1 < 0))) = true := by simpa using c23))
      clear c23
      replace H := Option.bind_eq_some_iff.mp H
      obtain ⟨t193, A310, H⟩ := H
      replace H : (some t193) = some r := H
      have A31 := Aside0.mk A310
      clear A310
      obtain rfl := Option.some.inj H
      go_wp2_with (first | ((with_reducible refine gate_dst (N := 13) rfl ?_); refine box_event ?hg (N := 13) ?hd (cs := #[.int .i64 0, .int .u64 0]) (t := 25) ?hr ?_; (case hd => rfl); (case hg => rfl); (case hr => first | (go_simp; done) | (go_simp; rfl)); intro gb189 hg w32 hbox hb; have BK189 := Aside0.mk (hbox); have GW189 := Aside0.mk (zs_ hg (zw1_ HB GE178)); have GE189 := Aside0.mk (zs_ hg (zw1_ HB GE178)); replace HB := Aside0.mk (below_step (zw1_ HB GE178) hb); have NB178_189 := Aside0.mk (zn_ hg BK178); have NB189_178 := Aside0.mk (zm_ hg BK178); replace BK178 := za_ BK178 hb; clear hb hbox hg; have hnb33 := NB189_178.out; have hnc33 := NB178_189.out; have hcz34_0 := zx_ (v := .int .i64 0) BK189 0; have hcz34_1 := zx_ (v := .int .u64 0) BK189 1; have hfz34_0 := blk_frozen BK189.out 0; have hfz34_1 := blk_frozen BK189.out 1) | (go_at_call 21; (with_reducible refine (wide_Fix.calls kj18 (wrap64 (ji22)) x11_18 t193 _ A31.out).mono ?_); rintro e w35 ⟨rfl, hb⟩; replace BK178 := Aside0.mk (blk_below (g := gb178) (o := .cells #[.int .i64 a0_0, .int .u64 a0_1] 25 (0, 0)) (zv1_ BK178 NB178_189) hb); replace BK189 := Aside0.mk (blk_below (g := gb189) (o := .cells #[.int .i64 (wrap64 (ji22)), .int .u64 x11_18] 25 (0, 0)) (zo2_ BK189) hb); replace HB := Aside0.mk (below_step (zw2_ HB GE178 GE189) hb); (try clear hb)))
      repeat (go_quiet (first | ((with_reducible refine gate_dst (N := 13) rfl ?_); refine box_event ?hg (N := 13) ?hd (cs := #[.int .i64 0, .int .u64 0]) (t := 25) ?hr ?_; (case hd => rfl); (case hg => rfl); (case hr => first | (go_simp; done) | (go_simp; rfl)); intro gb189 hg w32 hbox hb; have BK189 := Aside0.mk (hbox); have GW189 := Aside0.mk (zs_ hg (zw1_ HB GE178)); have GE189 := Aside0.mk (zs_ hg (zw1_ HB GE178)); replace HB := Aside0.mk (below_step (zw1_ HB GE178) hb); have NB178_189 := Aside0.mk (zn_ hg BK178); have NB189_178 := Aside0.mk (zm_ hg BK178); replace BK178 := za_ BK178 hb; clear hb hbox hg; have hnb33 := NB189_178.out; have hnc33 := NB178_189.out; have hcz34_0 := zx_ (v := .int .i64 0) BK189 0; have hcz34_1 := zx_ (v := .int .u64 0) BK189 1; have hfz34_0 := blk_frozen BK189.out 0; have hfz34_1 := blk_frozen BK189.out 1) | (go_at_call 21; (with_reducible refine (wide_Fix.calls kj18 (wrap64 (ji22)) x11_18 t193 _ A31.out).mono ?_); clear A31; rintro e w35 ⟨rfl, hb⟩; replace BK178 := Aside0.mk (blk_below (g := gb178) (o := .cells #[.int .i64 a0_0, .int .u64 a0_1] 25 (0, 0)) (zv1_ BK178 NB178_189) hb); replace BK189 := Aside0.mk (blk_below (g := gb189) (o := .cells #[.int .i64 (wrap64 (ji22)), .int .u64 x11_18] 25 (0, 0)) (zo2_ BK189) hb); replace HB := Aside0.mk (below_step (zw2_ HB GE178 GE189) hb); (try clear hb))); try go_wp2_with (first | ((with_reducible refine gate_dst (N := 13) rfl ?_); refine box_event ?hg (N := 13) ?hd (cs := #[.int .i64 0, .int .u64 0]) (t := 25) ?hr ?_; (case hd => rfl); (case hg => rfl); (case hr => first | (go_simp; done) | (go_simp; rfl)); intro gb189 hg w32 hbox hb; have BK189 := Aside0.mk (hbox); have GW189 := Aside0.mk (zs_ hg (zw1_ HB GE178)); have GE189 := Aside0.mk (zs_ hg (zw1_ HB GE178)); replace HB := Aside0.mk (below_step (zw1_ HB GE178) hb); have NB178_189 := Aside0.mk (zn_ hg BK178); have NB189_178 := Aside0.mk (zm_ hg BK178); replace BK178 := za_ BK178 hb; clear hb hbox hg; have hnb33 := NB189_178.out; have hnc33 := NB178_189.out; have hcz34_0 := zx_ (v := .int .i64 0) BK189 0; have hcz34_1 := zx_ (v := .int .u64 0) BK189 1; have hfz34_0 := blk_frozen BK189.out 0; have hfz34_1 := blk_frozen BK189.out 1) | (go_at_call 21; (with_reducible refine (wide_Fix.calls kj18 (wrap64 (ji22)) x11_18 t193 _ A31.out).mono ?_); clear A31; rintro e w35 ⟨rfl, hb⟩; replace BK178 := Aside0.mk (blk_below (g := gb178) (o := .cells #[.int .i64 a0_0, .int .u64 a0_1] 25 (0, 0)) (zv1_ BK178 NB178_189) hb); replace BK189 := Aside0.mk (blk_below (g := gb189) (o := .cells #[.int .i64 (wrap64 (ji22)), .int .u64 x11_18] 25 (0, 0)) (zo2_ BK189) hb); replace HB := Aside0.mk (below_step (zw2_ HB GE178 GE189) hb); (try clear hb))))
      go_ret
      exact ⟨by first | rfl | (simp [errW_none, errW_some] <;> rfl) | (simp only [← hji22]; first | rfl | (simp [errW_none, errW_some] <;> rfl)) | (simp [*, errW_none, errW_some] <;> rfl), zw2_ HB GE178 GE189⟩
     rw [if_pos c23] at H
     have c23b0 : (t183 != (decide (a1 < 0))) = true := c23
     (try (have c23b1 : decide (t183 = (decide (a1 < 0))) = false := by simpa using c23))
     (try (have c23b2 : (t183 == (decide (a1 < 0))) = false := by simpa using c23))
     (try (have c23b3 : ¬ (t183 = (decide (a1 < 0))) := by simpa using c23))
     clear c23
     replace H := Option.bind_eq_some_iff.mp H
     obtain ⟨⟨t190, t191⟩, A240, H⟩ := H
     replace H : ((wide_Fix.f kj18 t190 t191).bind fun t192 => (some t192)) = some r := H
     have A24 := Aside0.mk A240
     clear A240
     replace H := Option.bind_eq_some_iff.mp H
     obtain ⟨t192, A250, H⟩ := H
     replace H : (some t192) = some r := H
     have A25 := Aside0.mk A250
     clear A250
     obtain rfl := Option.some.inj H
     go_wp2_with (first | ((with_reducible refine gate_dst (N := 13) rfl ?_); refine box_event ?hg (N := 13) ?hd (cs := #[.int .i64 0, .int .u64 0]) (t := 25) ?hr ?_; (case hd => rfl); (case hg => rfl); (case hr => first | (go_simp; done) | (go_simp; rfl)); intro gb189 hg w26 hbox hb; have BK189 := Aside0.mk (hbox); have GW189 := Aside0.mk (zs_ hg (zw1_ HB GE178)); have GE189 := Aside0.mk (zs_ hg (zw1_ HB GE178)); replace HB := Aside0.mk (below_step (zw1_ HB GE178) hb); have NB178_189 := Aside0.mk (zn_ hg BK178); have NB189_178 := Aside0.mk (zm_ hg BK178); replace BK178 := za_ BK178 hb; clear hb hbox hg; have hnb27 := NB189_178.out; have hnc27 := NB178_189.out; have hcz28_0 := zx_ (v := .int .i64 0) BK189 0; have hcz28_1 := zx_ (v := .int .u64 0) BK189 1; have hfz28_0 := blk_frozen BK189.out 0; have hfz28_1 := blk_frozen BK189.out 1) | (go_at_call 18; (with_reducible refine (wide_Neg.calls (wrap64 (ji22)) x11_18 t190 t191 _ A24.out).mono ?_); rintro e w29 ⟨rfl, hb⟩; replace BK178 := Aside0.mk (blk_below (g := gb178) (o := .cells #[.int .i64 a0_0, .int .u64 a0_1] 25 (0, 0)) (zv1_ BK178 NB178_189) hb); replace BK189 := Aside0.mk (blk_below (g := gb189) (o := .cells #[.int .i64 (wrap64 (ji22)), .int .u64 x11_18] 25 (0, 0)) (zo2_ BK189) hb); replace HB := Aside0.mk (below_step (zw2_ HB GE178 GE189) hb); (try clear hb)) | (go_at_call 21; (with_reducible refine (wide_Fix.calls kj18 t190 t191 t192 _ A25.out).mono ?_); rintro e w30 ⟨rfl, hb⟩; replace BK178 := za_ BK178 hb; replace BK189 := za_ BK189 hb; replace HB := Aside0.mk (below_step (zw2_ HB GE178 GE189) hb); (try clear hb)))
     repeat (go_quiet (first | ((with_reducible refine gate_dst (N := 13) rfl ?_); refine box_event ?hg (N := 13) ?hd (cs := #[.int .i64 0, .int .u64 0]) (t := 25) ?hr ?_; (case hd => rfl); (case hg => rfl); (case hr => first | (go_simp; done) | (go_simp; rfl)); intro gb189 hg w26 hbox hb; have BK189 := Aside0.mk (hbox); have GW189 := Aside0.mk (zs_ hg (zw1_ HB GE178)); have GE189 := Aside0.mk (zs_ hg (zw1_ HB GE178)); replace HB := Aside0.mk (below_step (zw1_ HB GE178) hb); have NB178_189 := Aside0.mk (zn_ hg BK178); have NB189_178 := Aside0.mk (zm_ hg BK178); replace BK178 := za_ BK178 hb; clear hb hbox hg; have hnb27 := NB189_178.out; have hnc27 := NB178_189.out; have hcz28_0 := zx_ (v := .int .i64 0) BK189 0; have hcz28_1 := zx_ (v := .int .u64 0) BK189 1; have hfz28_0 := blk_frozen BK189.out 0; have hfz28_1 := blk_frozen BK189.out 1) | (go_at_call 18; (with_reducible refine (wide_Neg.calls (wrap64 (ji22)) x11_18 t190 t191 _ A24.out).mono ?_); clear A24; rintro e w29 ⟨rfl, hb⟩; replace BK178 := Aside0.mk (blk_below (g := gb178) (o := .cells #[.int .i64 a0_0, .int .u64 a0_1] 25 (0, 0)) (zv1_ BK178 NB178_189) hb); replace BK189 := Aside0.mk (blk_below (g := gb189) (o := .cells #[.int .i64 (wrap64 (ji22)), .int .u64 x11_18] 25 (0, 0)) (zo2_ BK189) hb); replace HB := Aside0.mk (below_step (zw2_ HB GE178 GE189) hb); (try clear hb)) | (go_at_call 21; (with_reducible refine (wide_Fix.calls kj18 t190 t191 t192 _ A25.out).mono ?_); clear A25; rintro e w30 ⟨rfl, hb⟩; replace BK178 := za_ BK178 hb; replace BK189 := za_ BK189 hb; replace HB := Aside0.mk (below_step (zw2_ HB GE178 GE189) hb); (try clear hb))); try go_wp2_with (first | ((with_reducible refine gate_dst (N := 13) rfl ?_); refine box_event ?hg (N := 13) ?hd (cs := #[.int .i64 0, .int .u64 0]) (t := 25) ?hr ?_; (case hd => rfl); (case hg => rfl); (case hr => first | (go_simp; done) | (go_simp; rfl)); intro gb189 hg w26 hbox hb; have BK189 := Aside0.mk (hbox); have GW189 := Aside0.mk (zs_ hg (zw1_ HB GE178)); have GE189 := Aside0.mk (zs_ hg (zw1_ HB GE178)); replace HB := Aside0.mk (below_step (zw1_ HB GE178) hb); have NB178_189 := Aside0.mk (zn_ hg BK178); have NB189_178 := Aside0.mk (zm_ hg BK178); replace BK178 := za_ BK178 hb; clear hb hbox hg; have hnb27 := NB189_178.out; have hnc27 := NB178_189.out; have hcz28_0 := zx_ (v := .int .i64 0) BK189 0; have hcz28_1 := zx_ (v := .int .u64 0) BK189 1; have hfz28_0 := blk_frozen BK189.out 0; have hfz28_1 := blk_frozen BK189.out 1) | (go_at_call 18; (with_reducible refine (wide_Neg.calls (wrap64 (ji22)) x11_18 t190 t191 _ A24.out).mono ?_); clear A24; rintro e w29 ⟨rfl, hb⟩; replace BK178 := Aside0.mk (blk_below (g := gb178) (o := .cells #[.int .i64 a0_0, .int .u64 a0_1] 25 (0, 0)) (zv1_ BK178 NB178_189) hb); replace BK189 := Aside0.mk (blk_below (g := gb189) (o := .cells #[.int .i64 (wrap64 (ji22)), .int .u64 x11_18] 25 (0, 0)) (zo2_ BK189) hb); replace HB := Aside0.mk (below_step (zw2_ HB GE178 GE189) hb); (try clear hb)) | (go_at_call 21; (with_reducible refine (wide_Fix.calls kj18 t190 t191 t192 _ A25.out).mono ?_); clear A25; rintro e w30 ⟨rfl, hb⟩; replace BK178 := za_ BK178 hb; replace BK189 := za_ BK189 hb; replace HB := Aside0.mk (below_step (zw2_ HB GE178 GE189) hb); (try clear hb))))
     go_ret
     exact ⟨by first | rfl | (simp [errW_none, errW_some] <;> rfl) | (simp only [← hji22]; first | rfl | (simp [errW_none, errW_some] <;> rfl)) | (simp [*, errW_none, errW_some] <;> rfl), zw2_ HB GE178 GE189⟩

end Go.Proofs.Ytalghnbolnimiaa.PWideKnown
