/- The functions that the law TensTurns reaches, as Lean functions, and that each call of the Go function does what its Lean function says, wherever that one answers. Written by a program of mine over the print of the kit; Lean checks it. -/
import Derived.Test.YtbdhabpplidgfaaPTensTurnsx0
import Derived.Test.YtbdhabpplidgfaaPTensTurnsx1
import Derived.Test.YtbdhabpplidgfaaPTensTurnsx6
namespace Go.Proofs.Ytbdhabpplidgfaa.PTensTurns
open Go.RowKit Go.Proofs.YtbdhabpplidgfaaW.PrintWords Go.Proofs.YtbdhabpplidgfaaW.PrintLast Go.Proofs.YtbdhabpplidgfaaW.PrintMore
attribute [local go_sem] max2_int min2_int max_two min_two max_three min_three max_four min_four   -- for this text's walks alone
set_option linter.unusedVariables false
set_option linter.unusedSimpArgs false

/-! ### fix_size: function 63 -/
def fix_size.f (a0 : Int) : Option (Int) := if a0 < 0 then (some (IntKind.u64.wrap (-(IntKind.u64.wrap (a0))))) else (some (IntKind.u64.wrap (a0)))
set_option maxHeartbeats 8000000 in
set_option maxRecDepth 100000 in
theorem fix_size.calls (a0 : Int) (r : Int) (w : World) (h : fix_size.f a0 = some r) :
  Calls Try.prog 63 #[.int .i64 a0] w fun e w' => e = .returned (.int .u64 r) ∧ Drawn0 w w' := by
 have H : (if a0 < 0 then (some (IntKind.u64.wrap (-(IntKind.u64.wrap (a0))))) else (some (IntKind.u64.wrap (a0)))) = some r := h
 clear h
 by_cases c2 : a0 < 0
 ·rw [if_pos c2] at H
  have c2b0 : decide (a0 < 0) = true := decide_eq_true c2
  clear c2
  obtain rfl := Option.some.inj H
  go_enter Try.func63, Try.ntmps63
  go_wp2
  go_ret
  exact ⟨by first | rfl | (simp; done) | (simp [*]; done), by repeat (first | exact Drawn0.refl _ | apply Drawn0.step)⟩
 rw [if_neg c2] at H
 have c2b0 : decide (a0 < 0) = false := decide_eq_false c2
 clear c2
 obtain rfl := Option.some.inj H
 go_enter Try.func63, Try.ntmps63
 go_wp2
 go_ret
 exact ⟨by first | rfl | (simp; done) | (simp [*]; done), by repeat (first | exact Drawn0.refl _ | apply Drawn0.step)⟩

/-- A call of a function without a body that the model answers itself. -/
def XCalls (P : Program) (f : FuncId) (args : Array Value) (w : World) (R : Ending → World → Prop) : Prop :=
 ∃ v, (callFunc f args).run P w = .ok (.value v) w ∧ R (.returned v) w
theorem XCalls.mono {P : Program} {f : FuncId} {args : Array Value} {w : World} {R R' : Ending → World → Prop} (h : XCalls P f args w R) (k : ∀ e w', R e w' → R' e w') : XCalls P f args w R' := by
 obtain ⟨v, h1, h2⟩ := h
 exact ⟨v, h1, k _ _ h2⟩
theorem goesX_ {P : Program} {ops : Array Oper} {Q : Exit → Act → World → Prop} {rest : List Oper} {oi : Oper} {a : Act} {w : World} (N : Option Tmp) (hd : oi.dst = N) (hg : oi.guard = none) {f : FuncId} {xs : Array Operand} {ts : Array TypeId} (args : Array Value)
  (hop : oi.op = .call { callee := .value (.func f), args := xs, argTypes := ts }) (hargs : xs.map a.eval = args)
  (h : XCalls P f args w fun e w' => ∃ v, e = .returned v ∧ wpList P ops Q rest (a.put N v) w') : wpList P ops Q (oi :: rest) a w := by
 obtain ⟨v, h1, v', h2, h3⟩ := h
 cases h2
 refine Kd.event_run hg ?_ (by rw [hd]; exact h3)
 unfold execOp
 simp [hop, resolve, Deferred.ofValue, invoke, Act.eval, hargs, h1]
/-! ### bits_Add64: function 64 -/
def bits_Add64.f (a0 a1 a2 : Int) : Option (Int × Int) := if 0 ≤ a0 ∧ 0 ≤ a1 ∧ 0 ≤ a2 ∧ a2 ≤ 1 then some ((a0 + a1 + a2) % 18446744073709551616, (a0 + a1 + a2) / 18446744073709551616) else none
theorem bits_Add64.calls (a0 a1 a2 r1 r2 : Int) (w : World) (h : bits_Add64.f a0 a1 a2 = some (r1, r2)) :
  XCalls Try.prog 64 #[.int .u64 a0, .int .u64 a1, .int .u64 a2] w fun e w' => e = .returned (.tuple #[.int .u64 r1, .int .u64 r2]) ∧ Drawn0 w w' := by
 unfold bits_Add64.f at h
 split at h
 ·rename_i hc
  simp only [Option.some.injEq, Prod.mk.injEq] at h
  obtain ⟨rfl, rfl⟩ := h
  refine ⟨_, ?_, rfl, Drawn0.refl _⟩
  rw [run_callFunc_extern (e := add64Entry) Try.func64 rfl (by kernel_rfl) (by kernel_rfl) (by kernel_rfl), run_add64 a0 a1 a2 hc.1 hc.2.1 hc.2.2.1 hc.2.2.2]
  rfl
 ·cases h

/-! ### fix_held: function 65 -/
def fix_held.j0 : Nat → Int → Int → Bool → Bool → Option (Int)
 | 0, _, _, _, _ => none
 | k + 1, x0, x1, x2, x7 => if x7 = true then (some (-9223372036854775808)) else (if x2 = true then (some (wrap64 (-(wrap64 (x1))))) else (if x0 > 0 then (some 9223372036854775807) else (if x1 ≥ 9223372036854775808 then (some 9223372036854775807) else (some (wrap64 (x1))))))
def fix_held.f (k : Nat) (a0 : Int) (a1 : Int) (a2 : Bool) : Option (Int) := if a2 = true then (if a0 > 0 then (fix_held.j0 k a0 a1 a2 true) else (fix_held.j0 k a0 a1 a2 (decide (a1 ≥ 9223372036854775808)))) else (fix_held.j0 k a0 a1 a2 false)
theorem fix_held.mono_l : ∀ k, (∀ y0 y1 y2 y3, LeO (fix_held.j0 k y0 y1 y2 y3) (fix_held.j0 (k + 1) y0 y1 y2 y3))
 | 0 => fun _ _ _ _ r h => by simp [fix_held.j0] at h
 | k + 1 => by
  have ih0 := fix_held.mono_l k
  ·intro y0 y1 y2 y3
   unfold fix_held.j0
   repeat' first
   | (with_reducible exact ih0 _ _ _ _)
   | (with_reducible exact LeO.refl _)
   | (with_reducible exact LeO.none _)
   | (with_reducible refine LeO.ite ?_ ?_)
   | (with_reducible refine LeO.bind ?_ (fun _ => ?_))
   | exact ih0 _ _ _ _
   | exact LeO.none _
   | refine LeO.ite ?_ ?_
   | refine LeO.bind ?_ (fun _ => ?_)
theorem fix_held.mono : ∀ a0 a1 a2 k, LeO (fix_held.f k a0 a1 a2) (fix_held.f (k + 1) a0 a1 a2) := by
 intro a0 a1 a2 k
 have ih0 := fix_held.mono_l k
 unfold fix_held.f
 repeat' first
   | (with_reducible exact ih0 _ _ _ _)
   | (with_reducible exact LeO.refl _)
   | (with_reducible exact LeO.none _)
   | (with_reducible refine LeO.ite ?_ ?_)
   | (with_reducible refine LeO.bind ?_ (fun _ => ?_))
   | exact ih0 _ _ _ _
   | exact LeO.none _
   | refine LeO.ite ?_ ?_
   | refine LeO.bind ?_ (fun _ => ?_)
set_option maxHeartbeats 8000000 in
set_option maxRecDepth 100000 in
theorem fix_held.calls (k : Nat) (a0 : Int) (a1 : Int) (a2 : Bool) (r : Int) (w : World) (h : fix_held.f k a0 a1 a2 = some r) :
  Calls Try.prog 65 #[.int .u64 a0, .int .u64 a1, .bool a2] w fun e w' => e = .returned (.int .i64 r) ∧ Drawn0 w w' := by
 have H : (if a2 = true then (if a0 > 0 then (fix_held.j0 k a0 a1 a2 true) else (fix_held.j0 k a0 a1 a2 (decide (a1 ≥ 9223372036854775808)))) else (fix_held.j0 k a0 a1 a2 false)) = some r := h
 clear h
 have HC4 := Aside0.mk H
 clear H
 go_enter Try.func65, Try.ntmps65
 go_upto_region 1 with (fail)
 go_cut [7] (fun v7 wc => ∃ (kq : Nat) (x7_3 : Bool), v7 = .bool x7_3 ∧ Aside0 (fix_held.j0 kq a0 a1 a2 x7_3 = some r) ∧ Aside0 (kq ≤ k) ∧ Drawn0 w wc)
 case first =>
  have H := HC4.out
  clear HC4
  by_cases c5 : a2 = true
  rotate_left
  ·replace c5 := Bool.eq_false_iff.mpr c5
   subst c5
   have H1 : (fix_held.j0 k a0 a1 false false) = some r := by rw [if_neg (show ¬ (false = true) by decide)] at H; exact H
   clear H
   have H := H1
   clear H1
   have H' := Aside0.mk H
   clear H
   go_wp2
   go_meet
   case rel => exact ⟨_, (false), z1_, H', ⟨by first | omega | exact Nat.le_refl _⟩, by repeat (first | exact Drawn0.refl _ | apply Drawn0.step)⟩
  subst c5
  have H1 := H
  rw [if_pos rfl] at H1
  clear H
  have H := H1
  clear H1
  by_cases c6 : a0 > 0
  ·rw [if_pos c6] at H
   have c6b0 : decide (0 < a0) = true := decide_eq_true c6
   clear c6
   (first | rw [c6b0] | (simp only [i64_w, i32_w]; rw [c6b0]) | skip)
   have H' := Aside0.mk H
   clear H
   go_wp2
   go_meet
   case rel => exact ⟨_, (true), z1_, H', ⟨by first | omega | exact Nat.le_refl _⟩, by repeat (first | exact Drawn0.refl _ | apply Drawn0.step)⟩
  rw [if_neg c6] at H
  have c6b0 : decide (0 < a0) = false := decide_eq_false c6
  clear c6
  (first | rw [c6b0] | (simp only [i64_w, i32_w]; rw [c6b0]) | skip)
  have H' := Aside0.mk H
  clear H
  go_wp2
  go_meet
  case rel => exact ⟨_, (decide (a1 ≥ 9223372036854775808)), z1_, H', ⟨by first | omega | exact Nat.le_refl _⟩, by repeat (first | exact Drawn0.refl _ | apply Drawn0.step)⟩
 case rest =>
  clear HC4
  try clear p2
  try clear c5
  try clear c6
  try clear c6b0
  obtain ⟨kq, x7_3, rfl, HA, HJ3, ⟨mc3, rfl⟩⟩ := hcut
  cases kq with
  | zero => exact absurd HA.out (by simp [fix_held.j0])
  | succ kj3 =>
   have H := HA.out
   clear HA
   simp only [fix_held.j0] at H
   by_cases c7 : x7_3 = true
   ·subst c7
    have H1 : (some (-9223372036854775808)) = some r := by rw [if_pos rfl] at H; exact H
    clear H
    have H := H1
    clear H1
    obtain rfl := Option.some.inj H
    go_wp2
    go_ret
    exact ⟨by first | rfl | (simp; done) | (simp [*]; done), by repeat (first | exact Drawn0.refl _ | apply Drawn0.step)⟩
   replace c7 := Bool.eq_false_iff.mpr c7
   subst c7
   have H1 := H
   rw [if_neg (show ¬ (false = true) by decide)] at H1
   clear H
   have H := H1
   clear H1
   by_cases c8 : a2 = true
   ·subst c8
    have H1 : (some (wrap64 (-(wrap64 (a1))))) = some r := by rw [if_pos rfl] at H; exact H
    clear H
    have H := H1
    clear H1
    obtain rfl := Option.some.inj H
    go_wp2
    go_ret
    exact ⟨by first | rfl | (simp; done) | (simp [*]; done), by repeat (first | exact Drawn0.refl _ | apply Drawn0.step)⟩
   replace c8 := Bool.eq_false_iff.mpr c8
   subst c8
   have H1 := H
   rw [if_neg (show ¬ (false = true) by decide)] at H1
   clear H
   have H := H1
   clear H1
   by_cases c9 : a0 > 0
   ·rw [if_pos c9] at H
    have c9b0 : decide (0 < a0) = true := decide_eq_true c9
    clear c9
    obtain rfl := Option.some.inj H
    go_wp2
    go_ret
    exact ⟨by first | rfl | (simp; done) | (simp [*]; done), by repeat (first | exact Drawn0.refl _ | apply Drawn0.step)⟩
   rw [if_neg c9] at H
   have c9b0 : decide (0 < a0) = false := decide_eq_false c9
   clear c9
   by_cases c10 : a1 ≥ 9223372036854775808
   ·rw [if_pos c10] at H
    have c10b0 : decide (9223372036854775808 ≤ a1) = true := decide_eq_true c10
    clear c10
    obtain rfl := Option.some.inj H
    go_wp2
    go_ret
    exact ⟨by first | rfl | (simp; done) | (simp [*]; done), by repeat (first | exact Drawn0.refl _ | apply Drawn0.step)⟩
   rw [if_neg c10] at H
   have c10b0 : decide (9223372036854775808 ≤ a1) = false := decide_eq_false c10
   clear c10
   obtain rfl := Option.some.inj H
   go_wp2
   go_ret
   exact ⟨by first | rfl | (simp; done) | (simp [*]; done), by repeat (first | exact Drawn0.refl _ | apply Drawn0.step)⟩

/-! ### fix_Mul: function 44 -/
def fix_Mul.j0 : Nat → Int → Int → Int → Int → Bool → Option (Int)
 | 0, _, _, _, _, _ => none
 | k + 1, x0, x1, x8, x9, x38 => if x38 = true then ((bits_Add64.f x8 1 0).bind fun bt294 => ((fix_held.f k (IntKind.u64.wrap (x9 + bt294.2)) bt294.1 ((decide (x0 < 0)) != (decide (x1 < 0)))).bind fun t296 => (some t296))) else ((fix_held.f k x9 x8 ((decide (x0 < 0)) != (decide (x1 < 0)))).bind fun t297 => (some t297))
def fix_Mul.f (k : Nat) (a0 : Int) (a1 : Int) : Option (Int) := (fix_size.f a0).bind fun t290 => ((fix_size.f a1).bind fun t291 => ((bits_Mul64.f t290 t291).bind fun bt292 => (if (Go.bits .and .u64 bt292.2 4294967295) > 2147483648 then (fix_Mul.j0 k a0 a1 (Go.bits .or .u64 (IntKind.u64.wrap (bt292.1 * 4294967296)) (bt292.2 / 4294967296)) (bt292.1 / 4294967296) true) else (if (Go.bits .and .u64 bt292.2 4294967295) = 2147483648 then (fix_Mul.j0 k a0 a1 (Go.bits .or .u64 (IntKind.u64.wrap (bt292.1 * 4294967296)) (bt292.2 / 4294967296)) (bt292.1 / 4294967296) ((Go.bits .and .u64 (Go.bits .or .u64 (IntKind.u64.wrap (bt292.1 * 4294967296)) (bt292.2 / 4294967296)) 1) == 1)) else (fix_Mul.j0 k a0 a1 (Go.bits .or .u64 (IntKind.u64.wrap (bt292.1 * 4294967296)) (bt292.2 / 4294967296)) (bt292.1 / 4294967296) false)))))
theorem fix_Mul.mono_l : ∀ k, (∀ y0 y1 y2 y3 y4, LeO (fix_Mul.j0 k y0 y1 y2 y3 y4) (fix_Mul.j0 (k + 1) y0 y1 y2 y3 y4))
 | 0 => fun _ _ _ _ _ r h => by simp [fix_Mul.j0] at h
 | k + 1 => by
  have ih0 := fix_Mul.mono_l k
  ·intro y0 y1 y2 y3 y4
   unfold fix_Mul.j0
   repeat' first
   | (with_reducible exact ih0 _ _ _ _ _)
   | (with_reducible exact fix_held.mono _ _ _ _)
   | (with_reducible exact LeO.refl _)
   | (with_reducible exact LeO.none _)
   | (with_reducible refine LeO.ite ?_ ?_)
   | (with_reducible refine LeO.bind ?_ (fun _ => ?_))
   | exact ih0 _ _ _ _ _
   | exact fix_held.mono _ _ _ _
   | exact LeO.none _
   | refine LeO.ite ?_ ?_
   | refine LeO.bind ?_ (fun _ => ?_)
theorem fix_Mul.mono : ∀ a0 a1 k, LeO (fix_Mul.f k a0 a1) (fix_Mul.f (k + 1) a0 a1) := by
 intro a0 a1 k
 have ih0 := fix_Mul.mono_l k
 unfold fix_Mul.f
 repeat' first
   | (with_reducible exact ih0 _ _ _ _ _)
   | (with_reducible exact LeO.refl _)
   | (with_reducible exact LeO.none _)
   | (with_reducible refine LeO.ite ?_ ?_)
   | (with_reducible refine LeO.bind ?_ (fun _ => ?_))
   | exact ih0 _ _ _ _ _
   | exact LeO.none _
   | refine LeO.ite ?_ ?_
   | refine LeO.bind ?_ (fun _ => ?_)
set_option maxHeartbeats 8000000 in
set_option maxRecDepth 100000 in
theorem fix_Mul.calls (k : Nat) (a0 : Int) (a1 : Int) (r : Int) (w : World) (h : fix_Mul.f k a0 a1 = some r) :
  Calls Try.prog 44 #[.int .i64 a0, .int .i64 a1] w fun e w' => e = .returned (.int .i64 r) ∧ Drawn0 w w' := by
 have H : ((fix_size.f a0).bind fun t290 => ((fix_size.f a1).bind fun t291 => ((bits_Mul64.f t290 t291).bind fun bt292 => (if (Go.bits .and .u64 bt292.2 4294967295) > 2147483648 then (fix_Mul.j0 k a0 a1 (Go.bits .or .u64 (IntKind.u64.wrap (bt292.1 * 4294967296)) (bt292.2 / 4294967296)) (bt292.1 / 4294967296) true) else (if (Go.bits .and .u64 bt292.2 4294967295) = 2147483648 then (fix_Mul.j0 k a0 a1 (Go.bits .or .u64 (IntKind.u64.wrap (bt292.1 * 4294967296)) (bt292.2 / 4294967296)) (bt292.1 / 4294967296) ((Go.bits .and .u64 (Go.bits .or .u64 (IntKind.u64.wrap (bt292.1 * 4294967296)) (bt292.2 / 4294967296)) 1) == 1)) else (fix_Mul.j0 k a0 a1 (Go.bits .or .u64 (IntKind.u64.wrap (bt292.1 * 4294967296)) (bt292.2 / 4294967296)) (bt292.1 / 4294967296) false)))))) = some r := h
 clear h
 replace H := Option.bind_eq_some_iff.mp H
 obtain ⟨t290, A30, H⟩ := H
 (try dsimp only at H)
 have A3 := Aside0.mk A30
 clear A30
 replace H := Option.bind_eq_some_iff.mp H
 obtain ⟨t291, A40, H⟩ := H
 (try dsimp only at H)
 have A4 := Aside0.mk A40
 clear A40
 replace H := Option.bind_eq_some_iff.mp H
 obtain ⟨⟨t292, t293⟩, A50, H⟩ := H
 (try dsimp only at H)
 have A5 := Aside0.mk A50
 clear A50
 have HC6 := Aside0.mk H
 clear H
 go_enter Try.func44, Try.ntmps44
 go_upto_region 5 with (first | ((with_reducible refine gate_callee (f := 63) rfl ?_); refine zg_ (some 13) Try.func63 #[.int .i64 a0] (h := ?_); (with_reducible refine (fix_size.calls a0 t290 _ A3.out).mono ?_); rintro e w' ⟨rfl, ⟨nd, rfl⟩⟩; refine ⟨_, rfl, ?_⟩) | ((with_reducible refine gate_callee (f := 63) rfl ?_); refine zg_ (some 15) Try.func63 #[.int .i64 a1] (h := ?_); (with_reducible refine (fix_size.calls a1 t291 _ A4.out).mono ?_); rintro e w' ⟨rfl, ⟨nd, rfl⟩⟩; refine ⟨_, rfl, ?_⟩) | ((with_reducible refine gate_callee (f := 62) rfl ?_); refine zg_ (some 16) Try.func62 #[.int .u64 t290, .int .u64 t291] (h := ?_); (with_reducible refine (bits_Mul64.calls t290 t291 t292 t293 _ A5.out).mono ?_); rintro e w' ⟨rfl, ⟨nd, rfl⟩⟩; refine ⟨_, rfl, ?_⟩))
 (try simp only [Act.put, List.setIfInBounds_toArray, List.set_cons_zero, List.set_cons_succ])
 go_cut [38] (fun v38 wc => ∃ (kq : Nat) (x38_5 : Bool), v38 = .bool x38_5 ∧ Aside0 (fix_Mul.j0 kq a0 a1 (Go.bits .or .u64 (IntKind.u64.wrap (t292 * 4294967296)) (t293 / 4294967296)) (t292 / 4294967296) x38_5 = some r) ∧ Aside0 (kq ≤ k) ∧ Drawn0 w wc)
 case first =>
  have H := HC6.out
  clear HC6
  by_cases c7 : (Go.bits .and .u64 t293 4294967295) > 2147483648
  ·rw [if_pos c7] at H
   have c7b0 : decide (2147483648 < (Go.bits .and .u64 t293 4294967295)) = true := decide_eq_true c7
   clear c7
   (first | rw [c7b0] | (simp only [i64_w, i32_w]; rw [c7b0]) | skip)
   have H' := Aside0.mk H
   clear H
   go_wp2
   go_meet
   case rel => exact ⟨_, (true), z1_, H', ⟨by first | omega | exact Nat.le_refl _⟩, by repeat (first | exact Drawn0.refl _ | apply Drawn0.step)⟩
  rw [if_neg c7] at H
  have c7b0 : decide (2147483648 < (Go.bits .and .u64 t293 4294967295)) = false := decide_eq_false c7
  clear c7
  (first | rw [c7b0] | (simp only [i64_w, i32_w]; rw [c7b0]) | skip)
  by_cases c8 : (Go.bits .and .u64 t293 4294967295) = 2147483648
  rotate_left
  ·rw [if_neg c8] at H
   have c8b0 : ((Go.bits .and .u64 t293 4294967295) == 2147483648) = false := beq_eq_false_iff_ne.mpr c8
   have c8b1 : ((Go.bits .and .u64 t293 4294967295) != 2147483648) = true := bne_iff_ne.mpr c8
   have H' := Aside0.mk H
   clear H
   go_wp2
   go_meet
   case rel => exact ⟨_, (false), z1_, H', ⟨by first | omega | exact Nat.le_refl _⟩, by repeat (first | exact Drawn0.refl _ | apply Drawn0.step)⟩
  rw [if_pos c8] at H
  have c8b0 : ((Go.bits .and .u64 t293 4294967295) == 2147483648) = true := beq_iff_eq.mpr c8
  have c8b1 : ((Go.bits .and .u64 t293 4294967295) != 2147483648) = false := bne_eq_false_iff_eq.mpr c8
  clear c8
  have H' := Aside0.mk H
  clear H
  go_wp2
  go_meet
  case rel => exact ⟨_, (((Go.bits .and .u64 (Go.bits .or .u64 (IntKind.u64.wrap (t292 * 4294967296)) (t293 / 4294967296)) 1) == 1)), z1_, H', ⟨by first | omega | exact Nat.le_refl _⟩, by repeat (first | exact Drawn0.refl _ | apply Drawn0.step)⟩
 case rest =>
  clear HC6
  try clear p2
  try clear c4
  try clear c6
  try clear c7
  try clear c7b0
  try clear c8
  try clear c8b0
  try clear c8b1
  obtain ⟨kq, x38_5, rfl, HA, HJ5, ⟨mc5, rfl⟩⟩ := hcut
  cases kq with
  | zero => exact absurd HA.out (by simp [fix_Mul.j0])
  | succ kj5 =>
   have H := HA.out
   clear HA
   simp only [fix_Mul.j0] at H
   by_cases c9 : x38_5 = true
   rotate_left
   ·replace c9 := Bool.eq_false_iff.mpr c9
    subst c9
    have H1 := H
    rw [if_neg (show ¬ (false = true) by decide)] at H1
    clear H
    have H := H1
    clear H1
    replace H := Option.bind_eq_some_iff.mp H
    obtain ⟨t297, A120, H⟩ := H
    replace H : (some t297) = some r := H
    have A12 := Aside0.mk A120
    clear A120
    obtain rfl := Option.some.inj H
    go_wp2_with (first | ((with_reducible refine gate_callee (f := 65) rfl ?_); refine zg_ (some 54) Try.func65 #[.int .u64 (t292 / 4294967296), .int .u64 (Go.bits .or .u64 (IntKind.u64.wrap (t292 * 4294967296)) (t293 / 4294967296)), .bool ((decide (a0 < 0)) != (decide (a1 < 0)))] (h := ?_); (with_reducible refine (fix_held.calls kj5 (t292 / 4294967296) (Go.bits .or .u64 (IntKind.u64.wrap (t292 * 4294967296)) (t293 / 4294967296)) ((decide (a0 < 0)) != (decide (a1 < 0))) t297 _ A12.out).mono ?_); rintro e w' ⟨rfl, ⟨nd, rfl⟩⟩; refine ⟨_, rfl, ?_⟩))
    go_ret
    exact ⟨by first | rfl | (simp; done) | (simp [*]; done), by repeat (first | exact Drawn0.refl _ | apply Drawn0.step)⟩
   subst c9
   have H1 := H
   rw [if_pos rfl] at H1
   clear H
   have H := H1
   clear H1
   replace H := Option.bind_eq_some_iff.mp H
   obtain ⟨⟨t294, t295⟩, A100, H⟩ := H
   (try dsimp only at H)
   have A10 := Aside0.mk A100
   clear A100
   replace H := Option.bind_eq_some_iff.mp H
   obtain ⟨t296, A110, H⟩ := H
   replace H : (some t296) = some r := H
   have A11 := Aside0.mk A110
   clear A110
   obtain rfl := Option.some.inj H
   go_wp2_with (first | ((with_reducible refine gate_callee (f := 64) rfl ?_); refine goesX_ (some 41) rfl rfl (f := 64) #[.int .u64 (Go.bits .or .u64 (IntKind.u64.wrap (t292 * 4294967296)) (t293 / 4294967296)), .int .u64 1, .int .u64 0] rfl (by (try simp only [List.map_toArray, List.map_cons, List.map_nil]); first | done | rfl | (simp only [List.length_drop, List.length_take]; rfl)) ?_; (with_reducible refine (bits_Add64.calls (Go.bits .or .u64 (IntKind.u64.wrap (t292 * 4294967296)) (t293 / 4294967296)) 1 0 t294 t295 _ A10.out).mono ?_); rintro e w' ⟨rfl, ⟨nd, rfl⟩⟩; refine ⟨_, rfl, ?_⟩) | ((with_reducible refine gate_callee (f := 65) rfl ?_); refine zg_ (some 54) Try.func65 #[.int .u64 (IntKind.u64.wrap ((t292 / 4294967296) + t295)), .int .u64 t294, .bool ((decide (a0 < 0)) != (decide (a1 < 0)))] (h := ?_); (with_reducible refine (fix_held.calls kj5 (IntKind.u64.wrap ((t292 / 4294967296) + t295)) t294 ((decide (a0 < 0)) != (decide (a1 < 0))) t296 _ A11.out).mono ?_); rintro e w' ⟨rfl, ⟨nd, rfl⟩⟩; refine ⟨_, rfl, ?_⟩))
   go_ret
   exact ⟨by first | rfl | (simp; done) | (simp [*]; done), by repeat (first | exact Drawn0.refl _ | apply Drawn0.step)⟩

/-! ### tens_Copy: function 56 -/
def tens_Copy.f (l0_0 : List Int) (l0_1 : List Int) : Option (List Int × List Int) := (slices_Clone_int_int.f l0_0).bind fun t300 => ((slices_Clone_Fix.f l0_1).bind fun t303 => (some (t300, t303)))
def tens_Copy.T1 : Bool × List (List Nat × List Nat) := (true, [([], []), ([0], [0]), ([1], [1]), ([], []), ([3], [3]), ([4, 2], [4]), ([2, 5], [2, 5]), ([6, 5, 0, 1, 2, 3, 4, 5, 6], [6])])
def tens_Copy.B1 : List Nat := [0, 1, 3, 0, 8, 31, 63, 127]
theorem tens_Copy.tab1 : rtab .any (opsOf Try.f56 1) = tens_Copy.T1 := by kernel_rfl
theorem tens_Copy.bits1 : waitsOk tens_Copy.T1.2 tens_Copy.B1 = true := by kernel_rfl
set_option maxHeartbeats 8000000 in
set_option maxRecDepth 100000 in
theorem tens_Copy.calls (A0_0 : Option Addr) (c0_0 : Nat) (l0_0 : List Int) (A0_1 : Option Addr) (c0_1 : Nat) (l0_1 : List Int) (r1 : List Int) (r2 : List Int) (w : World) (hr0_0 : Kd.C (Kd.int .i64) w A0_0 l0_0.length l0_0) (hc0_0 : l0_0.length ≤ c0_0) (hr0_1 : Kd.C (Kd.int .i64) w A0_1 l0_1.length l0_1) (hc0_1 : l0_1.length ≤ c0_1) (h : tens_Copy.f l0_0 l0_1 = some (r1, r2)) :
  Calls Try.prog 56 #[.agg #[.slice A0_0 l0_0.length c0_0, .slice A0_1 l0_1.length c0_1]] w fun e w' => ∃ v0_ v1_ : Value, e = .returned (.agg #[v0_, v1_]) ∧ Kd.R (Kd.int .i64) 3 w' w.heap.size (fun _ => True) v0_ r1 ∧ Kd.R (Kd.int .i64) 23 w' w.heap.size (fun _ => True) v1_ r2 ∧ Below w.heap.size w w' := by
 have hu27 := Try.underlying27
 have HR0_0 := Aside0.mk hr0_0
 have HC0_0 := Aside0.mk hc0_0
 clear hr0_0 hc0_0
 have HR0_1 := Aside0.mk hr0_1
 have HC0_1 := Aside0.mk hc0_1
 clear hr0_1 hc0_1
 have HB := Aside0.mk (Below.refl w.heap.size w)
 have H : ((slices_Clone_int_int.f l0_0).bind fun t300 => ((slices_Clone_Fix.f l0_1).bind fun t303 => (some (t300, t303)))) = some (r1, r2) := h
 clear h
 replace H := Option.bind_eq_some_iff.mp H
 obtain ⟨t300, A20, H⟩ := H
 replace H : ((slices_Clone_Fix.f l0_1).bind fun t303 => (some (t300, t303))) = some (r1, r2) := H
 have A2 := Aside0.mk A20
 clear A20
 replace H := Option.bind_eq_some_iff.mp H
 obtain ⟨t303, A30, H⟩ := H
 replace H : (some (t300, t303)) = some (r1, r2) := H
 have A3 := Aside0.mk A30
 clear A30
 simp only [Option.some.injEq, Prod.mk.injEq] at H
 obtain ⟨rfl, rfl⟩ := H
 go_enter Try.func56, Try.ntmps56
 try go_wp2_with (first | ((with_reducible refine gate_dst (N := 1) rfl ?_); refine box_event ?hg (N := 1) ?hd (cs := #[.slice A0_0 l0_0.length c0_0, .slice A0_1 l0_1.length c0_1]) (t := 27) ?hr ?_; (case hd => rfl); (case hg => rfl); (case hr => first | (go_simp; done) | (go_simp; rfl)); intro gb298 hg w4 hbox hb; have BK298 := Aside0.mk (hbox); have GW298 := Aside0.mk (zs_ hg (zw0_ HB)); have GE298 := Aside0.mk (zs_ hg (zw0_ HB)); replace HB := Aside0.mk (below_step (zw0_ HB) hb); clear hb hbox hg) | ((with_reducible refine gate_dst (N := 2) rfl ?_); refine box_event ?hg (N := 2) ?hd (cs := #[.slice none 0 0, .slice none 0 0]) (t := 27) ?hr ?_; (case hd => rfl); (case hg => rfl); (case hr => first | (go_simp; done) | (go_simp; rfl)); intro gb299 hg w5 hbox hb; have BK299 := Aside0.mk (hbox); have GW299 := Aside0.mk (zs_ hg (zw1_ HB GE298)); have GE299 := Aside0.mk (zs_ hg (zw1_ HB GE298)); replace HB := Aside0.mk (below_step (zw1_ HB GE298) hb); have NB298_299 := Aside0.mk (zn_ hg BK298); have NB299_298 := Aside0.mk (zm_ hg BK298); replace BK298 := za_ BK298 hb; clear hb hbox hg))
 replace BK298 := Aside0.mk (blk_drew BK298.out)
 replace BK299 := Aside0.mk (blk_drew BK299.out)
 replace HB := Aside0.mk (below_drew1 HB.out)
 refine start_ (n := 8) (S := fun w' => w'.cell? ⟨gb298, 0, none⟩ = some (.slice A0_0 l0_0.length c0_0) ∧ w'.cell? ⟨gb298, 1, none⟩ = some (.slice A0_1 l0_1.length c0_1)) (ds := []) #[false, false, false, false, false, false, false, false] (by kernel_rfl) rfl rfl ⟨(blk_cell BK298.out 0).trans rfl, (blk_cell BK298.out 1).trans rfl⟩ (fun hHeld => ?_); refine with_tabW tens_Copy.tab1 tens_Copy.bits1 (fun HT_ HW_ => ?_)
 generalize w5.drew = w6 at BK298 BK299 HB hHeld ⊢
 refine yp_ ?_ 0 3
 refine yp_ ?_ 3 6
 refine yt2_ ?_ 1 4
 refine yt2_ ?_ 4 7
 refine yo_ 2 (some 5) (fun K hK => ?_)
 refine yg_ Try.func34 #[.slice A0_0 l0_0.length c0_0] ?_
 with_reducible refine (slices_Clone_int_int.calls _ _ l0_0 t300 _ ?side1 ?side2 A2.out).mono ?_
 (case side1 => exact zk_ (Kd.C_below HR0_0.out HB.out))
 (case side2 => exact HC0_0.out)
 rintro e w7 ⟨v301, rfl, ho0, hb⟩
 refine ⟨_, rfl, ?_⟩
 have HO302 := Aside0.mk (Kd.R_lower ho0 (below_size (zw2_ HB GE298 GE299)))
 replace BK298 := za_ BK298 hb
 replace BK299 := za_ BK299 hb
 replace HB := Aside0.mk (below_step (zw2_ HB GE298 GE299) hb)
 (try clear hb)
 (try clear hb2)
 (try clear hk)
 (try clear hi)
 (try clear ho0)
 refine hK.out _ _ ⟨zx_ BK298 0, zx_ BK298 1⟩ (fun hHeld => ?_)
 clear hK K
 refine zq_ (some 5) (h := ?_)
 refine yo_ 5 (some 8) (fun K hK => ?_)
 refine yg_ Try.func41 #[.slice A0_1 l0_1.length c0_1] ?_
 with_reducible refine (slices_Clone_Fix.calls _ _ l0_1 t303 _ ?side1 ?side2 A3.out).mono ?_
 (case side1 => exact zk_ (Kd.C_below HR0_1.out HB.out))
 (case side2 => exact HC0_1.out)
 rintro e w8 ⟨v304, rfl, ho0, hb⟩
 refine ⟨_, rfl, ?_⟩
 replace HO302 := zy_ HO302 hb
 have HO305 := Aside0.mk (Kd.R_lower ho0 (below_size (zw2_ HB GE298 GE299)))
 replace BK298 := za_ BK298 hb
 replace BK299 := za_ BK299 hb
 replace HB := Aside0.mk (below_step (zw2_ HB GE298 GE299) hb)
 (try clear hb)
 (try clear hb2)
 (try clear hk)
 (try clear hi)
 (try clear ho0)
 obtain ⟨Ao9, co9, eo9⟩ := Kd.R_slice HO305.out
 (first | subst eo9 | (injection eo9 with f1_ f2_ f3_; have f4_ := f1_.symm; have f5_ := f3_.symm; clear f1_ f2_ f3_; subst f4_; subst f5_))
 obtain ⟨Ao10, co10, eo10⟩ := Kd.R_slice HO302.out
 (first | subst eo10 | (injection eo10 with f1_ f2_ f3_; have f4_ := f1_.symm; have f5_ := f3_.symm; clear f1_ f2_ f3_; subst f4_; subst f5_))
 refine hK.out _ _ ⟨zx_ BK298 0, zx_ BK298 1⟩ (fun hHeld => ?_)
 clear hK K
 refine zq_ (some 8) (h := ?_)
 refine yp_ ?_ 6 9
 refine yo_ 7 none (fun K hK => ?_)
 have hs11 := zx_ (v := .slice none 0 0) BK299 0
 have hfs11 := blk_frozen BK299.out 0
 have hns11_0 := NB298_299.out
 have hms11_0 := NB299_298.out
 have hs12 := zx_ (v := .slice none 0 0) BK299 1
 have hfs12 := blk_frozen BK299.out 1
 have hns12_0 := NB298_299.out
 have hms12_0 := NB299_298.out
 refine skip_ (w1 := ?_) (by rfl) rfl ?_ ?_
 rotate_left
 ·go_simp
  rfl
 refine hK.out _ _ ⟨((cell_far (p := ⟨gb299, _, none⟩) NB298_299.out _).trans (((cell_far (p := ⟨gb299, _, none⟩) NB298_299.out _).trans (hHeld.1)))), ((cell_far (p := ⟨gb299, _, none⟩) NB298_299.out _).trans (((cell_far (p := ⟨gb299, _, none⟩) NB298_299.out _).trans (hHeld.2))))⟩ (fun hHeld => ?_)
 clear hK K
 refine done_ (done_of HT_.out (by kernel_rfl)) ?_
 try go_wp2
 refine bodyPost_ret (results_cell_row rfl _ _ gb299 27 #[.slice Ao10 t300.length co10, .slice Ao9 t303.length co9] (0, 0) _ rfl (zo2_ BK299) Try.underlying27 rfl (by kernel_rfl)) rfl ?_
 exact ⟨_, _, z0_, zr_ (Kd.R_mono (Kd.R_far (p := ⟨gb299, 1, none⟩) (Kd.R_far (p := ⟨gb299, 0, none⟩) (Kd.R_types HO302.out BK299.out (by decide)) (fun _ hk => hk.2) (.slice Ao10 t300.length co10)) (fun _ hk => hk.2) (.slice Ao9 t303.length co9)) (fun _ hk => trivial)), zr_ (Kd.R_mono (Kd.R_far (p := ⟨gb299, 1, none⟩) (Kd.R_far (p := ⟨gb299, 0, none⟩) (Kd.R_types HO305.out BK299.out (by decide)) (fun _ hk => hk.2) (.slice Ao10 t300.length co10)) (fun _ hk => hk.2) (.slice Ao9 t303.length co9)) (fun _ hk => trivial)), zw2_ HB GE298 GE299⟩

/-! ### tens_Scale: function 27 -/
def tens_Scale.l0 : Nat → Int → Int → Int → List Int → List Int → Option (List Int × List Int × Int)
 | 0, _, _, _, _, _ => none
 | k + 1, x1, x17, x18, x316000, x316001 => if x18 < x17 then (if 0 ≤ x18 then (if x18 < (x316001.length : Int) then ((fix_Mul.f k (rd x316001 x18) x1).bind fun t317 => (tens_Scale.l0 k x1 x17 (wrap64 (x18 + 1)) x316000 (x316001.set (x18 : Int).toNat t317))) else (none)) else (none)) else (some (x316000, x316001, 0))
def tens_Scale.f (k : Nat) (l0_0 : List Int) (l0_1 : List Int) (a1 : Int) : Option (List Int × List Int × Int) := (tens_Good.f k l0_0 l0_1).bind fun t308 => (if t308 = true then ((tens_Copy.f l0_0 l0_1).bind fun bt309 => (tens_Scale.l0 k a1 (bt309.2.length : Int) 0 bt309.1 bt309.2)) else (some (([] : List Int), ([] : List Int), 1)))
theorem tens_Scale.mono_l : ∀ k, (∀ y0 y1 y2 y3 y4, LeO (tens_Scale.l0 k y0 y1 y2 y3 y4) (tens_Scale.l0 (k + 1) y0 y1 y2 y3 y4))
 | 0 => fun _ _ _ _ _ r h => by simp [tens_Scale.l0] at h
 | k + 1 => by
  have ih0 := tens_Scale.mono_l k
  ·intro y0 y1 y2 y3 y4
   unfold tens_Scale.l0
   repeat' first
   | (with_reducible exact ih0 _ _ _ _ _)
   | (with_reducible exact fix_Mul.mono _ _ _)
   | (with_reducible exact LeO.refl _)
   | (with_reducible exact LeO.none _)
   | (with_reducible refine LeO.ite ?_ ?_)
   | (with_reducible refine LeO.bind ?_ (fun _ => ?_))
   | exact ih0 _ _ _ _ _
   | exact fix_Mul.mono _ _ _
   | exact LeO.none _
   | refine LeO.ite ?_ ?_
   | refine LeO.bind ?_ (fun _ => ?_)
theorem tens_Scale.mono : ∀ a0 a1 a2 k, LeO (tens_Scale.f k a0 a1 a2) (tens_Scale.f (k + 1) a0 a1 a2) := by
 intro a0 a1 a2 k
 have ih0 := tens_Scale.mono_l k
 unfold tens_Scale.f
 repeat' first
   | (with_reducible exact ih0 _ _ _ _ _)
   | (with_reducible exact tens_Good.mono _ _ _)
   | (with_reducible exact LeO.refl _)
   | (with_reducible exact LeO.none _)
   | (with_reducible refine LeO.ite ?_ ?_)
   | (with_reducible refine LeO.bind ?_ (fun _ => ?_))
   | exact ih0 _ _ _ _ _
   | exact tens_Good.mono _ _ _
   | exact LeO.none _
   | refine LeO.ite ?_ ?_
   | refine LeO.bind ?_ (fun _ => ?_)
def tens_Scale.T7 : Bool × List (List Nat × List Nat) := (true, [([], []), ([0], [0]), ([], []), ([], []), ([], []), ([3, 4], [3, 4]), ([1, 2, 0, 1, 2, 3, 4, 5], [1, 2]), ([6, 5, 5, 0, 1, 2, 3, 4, 5], [5, 6])])
def tens_Scale.B7 : List Nat := [0, 1, 0, 0, 0, 24, 63, 127]
theorem tens_Scale.tab7 : rtab .any (opsOf Try.f27 7) = tens_Scale.T7 := by kernel_rfl
theorem tens_Scale.bits7 : waitsOk tens_Scale.T7.2 tens_Scale.B7 = true := by kernel_rfl
set_option maxHeartbeats 8000000 in
set_option maxRecDepth 100000 in
theorem tens_Scale.calls (k : Nat) (A0_0 : Option Addr) (c0_0 : Nat) (l0_0 : List Int) (A0_1 : Option Addr) (c0_1 : Nat) (l0_1 : List Int) (a1 : Int) (r1 : List Int) (r2 : List Int) (r3 : Int) (w : World) (hr0_0 : Kd.C (Kd.int .i64) w A0_0 l0_0.length l0_0) (hc0_0 : l0_0.length ≤ c0_0) (hr0_1 : Kd.C (Kd.int .i64) w A0_1 l0_1.length l0_1) (hc0_1 : l0_1.length ≤ c0_1) (h : tens_Scale.f k l0_0 l0_1 a1 = some (r1, r2, r3)) :
  Calls Try.prog 27 #[.agg #[.slice A0_0 l0_0.length c0_0, .slice A0_1 l0_1.length c0_1], .int .i64 a1] w fun e w' => ∃ v0_ v1_ : Value, e = .returned (.tuple #[.agg #[v0_, v1_], .int .i64 r3]) ∧ Kd.R (Kd.int .i64) 3 w' w.heap.size (fun _ => True) v0_ r1 ∧ Kd.R (Kd.int .i64) 23 w' w.heap.size (fun _ => True) v1_ r2 ∧ Below w.heap.size w w' := by
 have hu27 := Try.underlying27
 have HR0_0 := Aside0.mk hr0_0
 have HC0_0 := Aside0.mk hc0_0
 clear hr0_0 hc0_0
 have HR0_1 := Aside0.mk hr0_1
 have HC0_1 := Aside0.mk hc0_1
 clear hr0_1 hc0_1
 have HB := Aside0.mk (Below.refl w.heap.size w)
 have H : ((tens_Good.f k l0_0 l0_1).bind fun t308 => (if t308 = true then ((tens_Copy.f l0_0 l0_1).bind fun bt309 => (tens_Scale.l0 k a1 (bt309.2.length : Int) 0 bt309.1 bt309.2)) else (some (([] : List Int), ([] : List Int), 1)))) = some (r1, r2, r3) := h
 clear h
 replace H := Option.bind_eq_some_iff.mp H
 obtain ⟨t308, A30, H⟩ := H
 (try dsimp only at H)
 have A3 := Aside0.mk A30
 clear A30
 by_cases c4 : t308 = true
 rotate_left
 ·replace c4 := Bool.eq_false_iff.mpr c4
  subst c4
  have H1 : (some (([] : List Int), ([] : List Int), 1)) = some (r1, r2, r3) := by rw [if_neg (show ¬ (false = true) by decide)] at H; exact H
  clear H
  have H := H1
  clear H1
  simp only [Option.some.injEq, Prod.mk.injEq] at H
  obtain ⟨rfl, rfl, rfl⟩ := H
  go_enter Try.func27, Try.ntmps27
  go_wp2_with (first | ((with_reducible refine gate_dst (N := 2) rfl ?_); refine box_event ?hg (N := 2) ?hd (cs := #[.slice A0_0 l0_0.length c0_0, .slice A0_1 l0_1.length c0_1]) (t := 27) ?hr ?_; (case hd => rfl); (case hg => rfl); (case hr => first | (go_simp; done) | (go_simp; rfl)); intro gb306 hg w36 hbox hb; have BK306 := Aside0.mk (hbox); have GW306 := Aside0.mk (zs_ hg (zw0_ HB)); have GE306 := Aside0.mk (zs_ hg (zw0_ HB)); replace HB := Aside0.mk (below_step (zw0_ HB) hb); clear hb hbox hg) | ((with_reducible refine gate_dst (N := 4) rfl ?_); refine box_event ?hg (N := 4) ?hd (cs := #[.slice none 0 0, .slice none 0 0]) (t := 27) ?hr ?_; (case hd => rfl); (case hg => rfl); (case hr => first | (go_simp; done) | (go_simp; rfl)); intro gb307 hg w37 hbox hb; have BK307 := Aside0.mk (hbox); have GW307 := Aside0.mk (zs_ hg (zw1_ HB GE306)); have GE307 := Aside0.mk (zs_ hg (zw1_ HB GE306)); replace HB := Aside0.mk (below_step (zw1_ HB GE306) hb); have NB306_307 := Aside0.mk (zn_ hg BK306); have NB307_306 := Aside0.mk (zm_ hg BK306); replace BK306 := za_ BK306 hb; clear hb hbox hg; have hnb38 := NB306_307.out; have hnc38 := NB307_306.out; have hcz39_0 := zx_ (v := .slice A0_0 l0_0.length c0_0) BK306 0; have hcz39_1 := zx_ (v := .slice A0_1 l0_1.length c0_1) BK306 1; have hfz39_0 := blk_frozen BK306.out 0; have hfz39_1 := blk_frozen BK306.out 1) | ((with_reducible refine gate_callee (f := 16) rfl ?_); refine zg_ (some 10) Try.func16 #[.agg #[.slice A0_0 l0_0.length c0_0, .slice A0_1 l0_1.length c0_1]] (h := ?_); (with_reducible refine (tens_Good.calls k _ _ l0_0 _ _ l0_1 false _ ?side1 ?side2 ?side3 ?side4 A3.out).mono ?_); (case side1 => exact zk_ (Kd.C_below HR0_0.out HB.out)); (case side2 => exact HC0_0.out); (case side3 => exact zk_ (Kd.C_below HR0_1.out HB.out)); (case side4 => exact HC0_1.out); rintro e w40 ⟨rfl, hb⟩; refine ⟨_, rfl, ?_⟩; replace BK306 := za_ BK306 hb; replace BK307 := za_ BK307 hb; replace HB := Aside0.mk (below_step (zw2_ HB GE306 GE307) hb); (try clear hb); have hcz41_0 := zx_ (v := .slice none 0 0) BK307 0; have hcz41_1 := zx_ (v := .slice none 0 0) BK307 1; have hfz41_0 := blk_frozen BK307.out 0; have hfz41_1 := blk_frozen BK307.out 1))
  refine bodyPost_ret (results_ct rfl _ _ gb307 27 #[.slice none 0 0, .slice none 0 0] (0, 0) _ rfl (zo2_ BK307) Try.underlying27 rfl (by kernel_rfl)) rfl ?_
  exact ⟨_, _, z0_, z2_, z2_, zw2_ HB GE306 GE307⟩
 subst c4
 have H1 := H
 rw [if_pos rfl] at H1
 clear H
 have H := H1
 clear H1
 replace H := Option.bind_eq_some_iff.mp H
 obtain ⟨⟨t309, t312⟩, A50, H⟩ := H
 replace H : (tens_Scale.l0 k a1 (t312.length : Int) 0 t309 t312) = some (r1, r2, r3) := H
 have A5 := Aside0.mk A50
 clear A50
 have H' := Aside0.mk H
 clear H
 go_enter Try.func27, Try.ntmps27
 go_wp2_with (first | ((with_reducible refine gate_dst (N := 2) rfl ?_); refine box_event ?hg (N := 2) ?hd (cs := #[.slice A0_0 l0_0.length c0_0, .slice A0_1 l0_1.length c0_1]) (t := 27) ?hr ?_; (case hd => rfl); (case hg => rfl); (case hr => first | (go_simp; done) | (go_simp; rfl)); intro gb306 hg w6 hbox hb; have BK306 := Aside0.mk (hbox); have GW306 := Aside0.mk (zs_ hg (zw0_ HB)); have GE306 := Aside0.mk (zs_ hg (zw0_ HB)); replace HB := Aside0.mk (below_step (zw0_ HB) hb); clear hb hbox hg) | ((with_reducible refine gate_dst (N := 4) rfl ?_); refine box_event ?hg (N := 4) ?hd (cs := #[.slice none 0 0, .slice none 0 0]) (t := 27) ?hr ?_; (case hd => rfl); (case hg => rfl); (case hr => first | (go_simp; done) | (go_simp; rfl)); intro gb307 hg w7 hbox hb; have BK307 := Aside0.mk (hbox); have GW307 := Aside0.mk (zs_ hg (zw1_ HB GE306)); have GE307 := Aside0.mk (zs_ hg (zw1_ HB GE306)); replace HB := Aside0.mk (below_step (zw1_ HB GE306) hb); have NB306_307 := Aside0.mk (zn_ hg BK306); have NB307_306 := Aside0.mk (zm_ hg BK306); replace BK306 := za_ BK306 hb; clear hb hbox hg; have hnb8 := NB306_307.out; have hnc8 := NB307_306.out; have hcz9_0 := zx_ (v := .slice A0_0 l0_0.length c0_0) BK306 0; have hcz9_1 := zx_ (v := .slice A0_1 l0_1.length c0_1) BK306 1; have hfz9_0 := blk_frozen BK306.out 0; have hfz9_1 := blk_frozen BK306.out 1) | ((with_reducible refine gate_callee (f := 16) rfl ?_); refine zg_ (some 10) Try.func16 #[.agg #[.slice A0_0 l0_0.length c0_0, .slice A0_1 l0_1.length c0_1]] (h := ?_); (with_reducible refine (tens_Good.calls k _ _ l0_0 _ _ l0_1 true _ ?side1 ?side2 ?side3 ?side4 A3.out).mono ?_); (case side1 => exact zk_ (Kd.C_below HR0_0.out HB.out)); (case side2 => exact HC0_0.out); (case side3 => exact zk_ (Kd.C_below HR0_1.out HB.out)); (case side4 => exact HC0_1.out); rintro e w10 ⟨rfl, hb⟩; refine ⟨_, rfl, ?_⟩; replace BK306 := za_ BK306 hb; replace BK307 := za_ BK307 hb; replace HB := Aside0.mk (below_step (zw2_ HB GE306 GE307) hb); (try clear hb); have hcz11_0 := zx_ (v := .slice A0_0 l0_0.length c0_0) BK306 0; have hcz11_1 := zx_ (v := .slice A0_1 l0_1.length c0_1) BK306 1; have hfz11_0 := blk_frozen BK306.out 0; have hfz11_1 := blk_frozen BK306.out 1) | ((with_reducible refine gate_callee (f := 56) rfl ?_); refine zg_ (some 14) Try.func56 #[.agg #[.slice A0_0 l0_0.length c0_0, .slice A0_1 l0_1.length c0_1]] (h := ?_); (with_reducible refine (tens_Copy.calls _ _ l0_0 _ _ l0_1 t309 t312 _ ?side1 ?side2 ?side3 ?side4 A5.out).mono ?_); (case side1 => exact zk_ (Kd.C_below HR0_0.out HB.out)); (case side2 => exact HC0_0.out); (case side3 => exact zk_ (Kd.C_below HR0_1.out HB.out)); (case side4 => exact HC0_1.out); rintro e w12 ⟨v310, v313, rfl, ho0, ho1, hb⟩; refine ⟨_, rfl, ?_⟩; have HO311 := Aside0.mk (Kd.R_lower ho0 (below_size (zw2_ HB GE306 GE307))); have HO314 := Aside0.mk (Kd.R_lower ho1 (below_size (zw2_ HB GE306 GE307))); replace BK306 := za_ BK306 hb; replace BK307 := za_ BK307 hb; replace HB := Aside0.mk (below_step (zw2_ HB GE306 GE307) hb); (try clear hb); (try clear ho0); (try clear ho1)) | ((with_reducible refine gate_dst (N := 6) rfl ?_); refine box_event ?hg (N := 6) ?hd (cs := #[.slice none 0 0, .slice none 0 0]) (t := 27) ?hr ?_; (case hd => rfl); (case hg => rfl); (case hr => first | (go_simp; done) | (go_simp; rfl)); intro gb315 hg w13 hbox hb; replace HO311 := zy_ HO311 hb; replace HO314 := zy_ HO314 hb; have BK315 := Aside0.mk (hbox); have GW315 := Aside0.mk (zs_ hg (zw2_ HB GE306 GE307)); have GE315 := Aside0.mk (zs_ hg (zw2_ HB GE306 GE307)); replace HB := Aside0.mk (below_step (zw2_ HB GE306 GE307) hb); have NB306_315 := Aside0.mk (zn_ hg BK306); have NB315_306 := Aside0.mk (zm_ hg BK306); replace BK306 := za_ BK306 hb; have NB307_315 := Aside0.mk (zn_ hg BK307); have NB315_307 := Aside0.mk (zm_ hg BK307); replace BK307 := za_ BK307 hb; clear hb hbox hg; obtain ⟨Ao14, co14, eo14⟩ := Kd.R_slice HO311.out; subst eo14; have hnb15 := NB315_306.out; have hnc15 := NB306_315.out; have hnb16 := NB315_307.out; have hnc16 := NB307_315.out; have hcz17_0 := zx_ (v := .slice none 0 0) BK315 0; have hcz17_1 := zx_ (v := .slice none 0 0) BK315 1; have hfz17_0 := blk_frozen BK315.out 0; have hfz17_1 := blk_frozen BK315.out 1; obtain ⟨Ao18, co18, eo18⟩ := Kd.R_slice HO314.out; subst eo18))
 go_loopg [18] k (fun kq v18 w' => ∃ (x18_1 : Int) (x316001_1 : List Int) (u316001 : Value), v18 = .int .i64 x18_1 ∧ Aside0 (u316001 = .slice Ao18 t312.length co18) ∧ Aside0 (x316001_1.length = t312.length) ∧ Aside0 (tens_Scale.l0 kq a1 (t312.length : Int) x18_1 t309 x316001_1 = some (r1, r2, r3)) ∧ Aside0 (kq ≤ k) ∧ Aside0 (Kd.R (Kd.int .i64) 3 w' w.heap.size (fun _ => True) (.slice Ao14 t309.length co14) t309) ∧ Aside0 (Kd.R (Kd.int .i64) 23 w' w.heap.size (fun _ => True) u316001 x316001_1) ∧ Aside0 (w'.heap[gb306]? = some (.cells #[(.slice A0_0 l0_0.length c0_0), (.slice A0_1 l0_1.length c0_1)] 27 (0, 0))) ∧ Aside0 (w'.heap[gb307]? = some (.cells #[(.slice none 0 0), (.slice none 0 0)] 27 (0, 0))) ∧ Aside0 (w'.heap[gb315]? = some (.cells #[(.slice Ao14 t309.length co14), u316001] 27 (0, 0))) ∧ Aside0 (Below w.heap.size w w'))
 case atStart => exact ⟨(0), (t312), (.slice Ao18 t312.length co18), z1_, ⟨rfl⟩, ⟨rfl⟩, H', ⟨Nat.le_refl _⟩, ⟨zr_ (Kd.R_mono (Kd.R_far (p := ⟨gb315, 1, none⟩) (Kd.R_far (p := ⟨gb315, 0, none⟩) (Kd.R_types HO311.out BK315.out (by decide)) (fun _ hk => hk.2) (.slice Ao14 t309.length co14)) (fun _ hk => hk.2) (.slice Ao18 t312.length co18)) (fun _ hk => trivial))⟩, ⟨zr_ (Kd.R_mono (Kd.R_far (p := ⟨gb315, 1, none⟩) (Kd.R_far (p := ⟨gb315, 0, none⟩) (Kd.R_types HO314.out BK315.out (by decide)) (fun _ hk => hk.2) (.slice Ao14 t309.length co14)) (fun _ hk => hk.2) (.slice Ao18 t312.length co18)) (fun _ hk => trivial))⟩, ⟨zv1_ BK306 NB306_315⟩, ⟨zv1_ BK307 NB307_315⟩, ⟨zo2_ BK315⟩, ⟨zw3_ HB GE306 GE307 GE315⟩⟩
 case round =>
  clear H'
  try clear c1
  try clear c2
  try clear p2
  try clear c4
  try clear c5
  try clear c8
  try clear c15
  try clear c16
  try clear hcz11_0
  try clear hcz11_1
  try clear hcz17_0
  try clear hcz17_1
  try clear hcz9_0
  try clear hcz9_1
  try clear hfz11_0
  try clear hfz11_1
  try clear hfz17_0
  try clear hfz17_1
  try clear hfz9_0
  try clear hfz9_1
  obtain ⟨x18_1, x316001_1, u316001, rfl, hu_, hl_, HA, HK1, HO_316000, HO_316001, BK306, BK307, BK315, HB⟩ := hrel
  cases gk with
  | zero => exact absurd HA.out (by simp [tens_Scale.l0])
  | succ k1 =>
   have H := HA.out
   clear HA
   simp only [tens_Scale.l0] at H
   by_cases c19 : x18_1 < (t312.length : Int)
   rotate_left
   ·rw [if_neg c19] at H
    have c19b0 : decide (x18_1 < (t312.length : Int)) = false := decide_eq_false c19
    clear c19
    simp only [Option.some.injEq, Prod.mk.injEq] at H
    obtain ⟨rfl, rfl, rfl⟩ := H
    have hnb30 := NB315_306.out
    have hnc30 := NB306_315.out
    have hnb31 := NB315_307.out
    have hnc31 := NB307_315.out
    have hcz32_0 := zx_ (v := .slice Ao14 t309.length co14) BK315 0
    have hcz32_1 := zx_ (v := u316001) BK315 1
    have hfz32_0 := blk_frozen BK315.out 0
    have hfz32_1 := blk_frozen BK315.out 1
    have hnb33 := NB307_306.out
    have hnc33 := NB306_307.out
    have hcz34_0 := zx_ (v := .slice none 0 0) BK307 0
    have hcz34_1 := zx_ (v := .slice none 0 0) BK307 1
    have hfz34_0 := blk_frozen BK307.out 0
    have hfz34_1 := blk_frozen BK307.out 1
    obtain ⟨Ao35, co35, eo35⟩ := Kd.R_slice HO_316001.out
    subst eo35
    go_wp2
    refine bodyPost_ret (results_ct rfl _ _ gb307 27 #[.slice Ao14 t309.length co14, .slice Ao35 x316001_1.length co35] (0, 0) _ rfl (zo2_ BK307) Try.underlying27 rfl (by kernel_rfl)) rfl ?_
    exact ⟨_, _, z0_, zr_ (Kd.R_mono (Kd.R_far (p := ⟨gb307, 1, none⟩) (Kd.R_far (p := ⟨gb307, 0, none⟩) (Kd.R_types HO_316000.out BK307.out (by decide)) (fun _ hk => hk.2) (.slice Ao14 t309.length co14)) (fun _ hk => hk.2) (.slice Ao35 x316001_1.length co35)) (fun _ hk => trivial)), zr_ (Kd.R_mono (Kd.R_far (p := ⟨gb307, 1, none⟩) (Kd.R_far (p := ⟨gb307, 0, none⟩) (Kd.R_types HO_316001.out BK307.out (by decide)) (fun _ hk => hk.2) (.slice Ao14 t309.length co14)) (fun _ hk => hk.2) (.slice Ao35 x316001_1.length co35)) (fun _ hk => trivial)), zw3_ HB GE306 GE307 GE315⟩
   rw [if_pos c19] at H
   have c19b0 : decide (x18_1 < (t312.length : Int)) = true := decide_eq_true c19
   clear c19
   by_cases c20 : 0 ≤ x18_1
   rotate_left
   ·rw [if_neg c20] at H
    exact absurd H (by simp)
   rw [if_pos c20] at H
   have c20b0 : decide (0 ≤ x18_1) = true := decide_eq_true c20
   clear c20
   by_cases c21 : x18_1 < (x316001_1.length : Int)
   rotate_left
   ·rw [if_neg c21] at H
    exact absurd H (by simp)
   rw [if_pos c21] at H
   have c21b0 : decide (x18_1 < (x316001_1.length : Int)) = true := decide_eq_true c21
   clear c21
   replace H := Option.bind_eq_some_iff.mp H
   obtain ⟨t317, A220, H⟩ := H
   replace H : (tens_Scale.l0 k1 a1 (t312.length : Int) (wrap64 (x18_1 + 1)) t309 (x316001_1.set (x18_1 : Int).toNat t317)) = some (r1, r2, r3) := H
   have A22 := Aside0.mk A220
   clear A220
   obtain ⟨y318, hy318⟩ : ∃ y_ : List Int, y_ = (x316001_1.set (x18_1 : Int).toNat t317) := ⟨_, rfl⟩
   replace H : (tens_Scale.l0 k1 a1 (t312.length : Int) (wrap64 (x18_1 + 1)) t309 y318) = some (r1, r2, r3) := by first | (rw [hy318]; with_reducible exact H) | (have H2_ := (Option.bind_some _ _).symm.trans H; rw [hy318]; with_reducible exact H2_) | (have H2_ := (Option.bind_some _ _).symm.trans H; with_reducible exact H2_) | with_reducible exact H | (rw [hy318]; exact H) | exact H
   have Ny318 := Aside0.mk hy318
   clear hy318
   have H' := Aside0.mk H
   clear H
   have hnb24 := NB315_306.out
   have hnc24 := NB306_315.out
   have hnb25 := NB315_307.out
   have hnc25 := NB307_315.out
   have hcz26_0 := zx_ (v := .slice Ao14 t309.length co14) BK315 0
   have hcz26_1 := zx_ (v := u316001) BK315 1
   have hfz26_0 := blk_frozen BK315.out 0
   have hfz26_1 := blk_frozen BK315.out 1
   obtain ⟨Ao27, co27, eo27⟩ := Kd.R_slice HO_316001.out
   have eq_ := eo27.symm.trans hu_.out
   subst eo27
   injection eq_ with ea_ en_ ec_
   clear en_ hu_
   subst ea_
   subst ec_
   have p316 : 0 ≤ (x18_1 : Int) := of_decide_eq_true (by first | (with_reducible assumption) | assumption)
   have q316 : x18_1 < (x316001_1.length : Int) := of_decide_eq_true (by first | (with_reducible assumption) | assumption)
   obtain ⟨ad316, e316, hx316_0⟩ := Kd.at_int (Kd.R_reads' HO_316001.out).2.2 x18_1 p316 q316
   cases e316
   replace p316 := eq_true p316
   rw [hl_.out] at q316
   replace q316 := eq_true q316
   try go_wp2
   replace HO_316000 := Aside0.mk (Kd.R_drew HO_316000.out)
   replace HO_316001 := Aside0.mk (Kd.R_drew HO_316001.out)
   replace BK306 := Aside0.mk (blk_drew BK306.out)
   replace BK307 := Aside0.mk (blk_drew BK307.out)
   replace BK315 := Aside0.mk (blk_drew BK315.out)
   replace HB := Aside0.mk (below_drew1 HB.out)
   refine start_ (n := 8) (S := fun w' => w'.cell? ⟨gb315, 0, none⟩ = some (.slice Ao14 t309.length co14) ∧ w'.cell? ⟨gb315, 1, none⟩ = some (.slice (some ad316) x316001_1.length co27)) (ds := [7]) #[false, false, false, false, false, false, false, false] (by kernel_rfl) rfl rfl ⟨(blk_cell BK315.out 0).trans rfl, (blk_cell BK315.out 1).trans rfl⟩ (fun hHeld => ?_); refine with_tabW tens_Scale.tab7 tens_Scale.bits7 (fun HT_ HW_ => ?_)
   generalize wr.drew = w28 at HO_316000 HO_316001 BK306 BK307 BK315 HB hHeld ⊢
   refine yp_ ?_ 0 23
   refine yp_ ?_ 2 25
   refine yp_ ?_ 3 26
   refine yp_ ?_ 4 27
   refine yt2_ ?_ 1 24
   refine yo_ 5 (some 28) (fun K hK => ?_)
   refine yg_ Try.func44 #[.int .i64 (rd x316001_1 x18_1), .int .i64 a1] ?_
   with_reducible refine (fix_Mul.calls k1 (rd x316001_1 x18_1) a1 t317 _ A22.out).mono ?_
   rintro e w' ⟨rfl, ⟨nd, rfl⟩⟩
   refine ⟨_, rfl, ?_⟩
   have p23 : 0 ≤ (x18_1 : Int) := of_decide_eq_true (by first | (with_reducible assumption) | assumption)
   have q23 : (x18_1 : Int) < ((x316001_1.length : Int) : Int) := of_decide_eq_true (by first | (with_reducible assumption) | assumption)
   obtain ⟨go23, co23, eo23, gb23, gl23, cl23, HG23⟩ := Kd.R_form HO_316001.out (by omega)
   (first | cases eo23 | (injection eo23 with ea_ en_ ec_; (first | subst ea_ | (injection ea_ with ea_; subst ea_)); subst ec_; clear en_))
   have GB23 := Aside0.mk gb23
   have GG23 := Aside0.mk HG23
   clear gb23 gl23 HG23
   (first | simp only [add_plain] at hx316_0 | skip)
   obtain ⟨hx23_0, hf23_0⟩ := Kd.R_celln 0 HO_316001.out (x18_1 : Int) p23 q23
   replace p23 := eq_true p23
   replace q23 := eq_true q23
   have HP29 := Kd.R_putn HO_316001.out (x18_1 : Int) t317
   rw [← Ny318.out] at HP29
   have HQ29 := Aside0.mk HP29
   clear HP29
   refine hK.out _ _ ⟨zx_ BK315 0, zx_ BK315 1⟩ (fun hHeld => ?_)
   clear hK K
   refine zq_ (some 28) (h := ?_)
   refine yp_ ?_ 6 29
   refine yl_ 7 none (fun K hK => ?_)
   refine skip_ (w1 := ?_) (by rfl) rfl ?_ ?_
   rotate_left
   ·go_simp
    rfl
   refine hK.out _ _ ?_
   clear hK K
   refine done_ (done_of HT_.out (by kernel_rfl)) ?_
   try go_wp2
   go_roundg k1
   case measure => have := HK1.out; omega
   case rel => exact ⟨(wrap64 (x18_1 + 1)), (y318), (.slice (some ⟨go23, 0, none⟩) x316001_1.length co27), z1_, ⟨by rw [hl_.out]⟩, ⟨by rw [Ny318.out, List.length_set]; exact hl_.out⟩, H', ⟨by have := HK1.out; omega⟩, ⟨zr_ (Kd.R_mono (Kd.R_far (p := ⟨go23, (x18_1 : Int).toNat, none⟩) (Kd.R_types HO_316000.out GG23.out (by decide)) (fun _ hk => hk.2) (.int .i64 t317)) (fun _ hk => trivial))⟩, ⟨zr_ HQ29.out⟩, ⟨by (with_reducible repeat (first | refine blk_drewN ?_ _ | refine blk_drew ?_ | refine blk_alloc ?_ _)); refine blk_far ?_ (by have h_ := Kd.R_ne HO_316001.out BK306.out (by decide); intro e_; exact h_ (by rw [e_]; rfl)) _; (with_reducible repeat (first | refine blk_drewN ?_ _ | refine blk_drew ?_ | refine blk_alloc ?_ _)); exact BK306.out⟩, ⟨by (with_reducible repeat (first | refine blk_drewN ?_ _ | refine blk_drew ?_ | refine blk_alloc ?_ _)); refine blk_far ?_ (by have h_ := Kd.R_ne HO_316001.out BK307.out (by decide); intro e_; exact h_ (by rw [e_]; rfl)) _; (with_reducible repeat (first | refine blk_drewN ?_ _ | refine blk_drew ?_ | refine blk_alloc ?_ _)); exact BK307.out⟩, ⟨by (with_reducible repeat (first | refine blk_drewN ?_ _ | refine blk_drew ?_ | refine blk_alloc ?_ _)); refine blk_far ?_ (by have h_ := Kd.R_ne HO_316001.out BK315.out (by decide); intro e_; exact h_ (by rw [e_]; rfl)) _; (with_reducible repeat (first | refine blk_drewN ?_ _ | refine blk_drew ?_ | refine blk_alloc ?_ _)); exact BK315.out⟩, ⟨by repeat (first | (with_reducible first | exact HB.out | apply below_alloc | apply pw_below_drewN | apply below_drew1 | refine below_set ?_ GB23.out | refine below_set ?_ GE306.out | refine below_set ?_ GE307.out | refine below_set ?_ GE315.out) | exact HB.out)⟩⟩

end Go.Proofs.Ytbdhabpplidgfaa.PTensTurns
