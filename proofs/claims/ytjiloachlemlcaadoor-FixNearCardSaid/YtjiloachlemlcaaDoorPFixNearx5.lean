/- The functions that the law FixNear reaches, as Lean functions, and that each call of the Go function does what its Lean function says, wherever that one answers. Written by a program of mine over the print of the kit; Lean checks it. -/
import Derived.Test.YtjiloachlemlcaaDoorPFixNearx0
import Derived.Test.YtjiloachlemlcaaDoorPFixNearx1
import Derived.Test.YtjiloachlemlcaaDoorPFixNearx3
import Derived.Test.YtjiloachlemlcaaDoorPFixNearx4
namespace Go.Proofs.YtjiloachlemlcaaDoor.PFixNear
open Go.RowKit Go.Proofs.YtjiloachlemlcaaDoorW.PrintWords Go.Proofs.YtjiloachlemlcaaDoorW.PrintLast Go.Proofs.YtjiloachlemlcaaDoorW.PrintMore
attribute [local go_sem] max2_int min2_int max_two min_two max_three min_three max_four min_four   -- for this text's walks alone
set_option linter.unusedVariables false
set_option linter.unusedSimpArgs false

/-! ### carousellaw1_awake: function 11 -/
def carousellaw1_awake.f (k : Nat)  : Option (Bool) := (fix_Mul.f k 4294967296 4294967296).bind fun t156 => (if t156 = 4294967296 then ((fix_Of.f 3).bind fun t157 => ((fix_Div.f k 4294967296 t157).bind fun t158 => (if t158 = 1431655765 then ((fix_Text.f k 4294967296).bind fun t159 => (some (t159.toList == ([49, 46, 48, 48, 48, 48, 48, 48, 48, 48, 48, 48] : List UInt8)))) else (none)))) else (none))
theorem carousellaw1_awake.mono : ∀ k, LeO (carousellaw1_awake.f k ) (carousellaw1_awake.f (k + 1) ) := by
 intro  k
 unfold carousellaw1_awake.f
 repeat' first
   | (with_reducible exact fix_Div.mono _ _ _)
   | (with_reducible exact fix_Mul.mono _ _ _)
   | (with_reducible exact fix_Text.mono _ _)
   | (with_reducible exact LeO.refl _)
   | (with_reducible exact LeO.none _)
   | (with_reducible refine LeO.ite ?_ ?_)
   | (with_reducible refine LeO.bind ?_ (fun _ => ?_))
   | exact fix_Div.mono _ _ _
   | exact fix_Mul.mono _ _ _
   | exact fix_Text.mono _ _
   | exact LeO.none _
   | refine LeO.ite ?_ ?_
   | refine LeO.bind ?_ (fun _ => ?_)
set_option maxHeartbeats 8000000 in
set_option maxRecDepth 100000 in
theorem carousellaw1_awake.calls (k : Nat)  (r : Bool) (w : World) (h : carousellaw1_awake.f k  = some r) :
  Calls Tryd.prog 11 #[] w fun e w' => e = .returned (.bool r) ∧ Below w.heap.size w w' := by
 have HB := Aside0.mk (Below.refl w.heap.size w)
 have H : ((fix_Mul.f k 4294967296 4294967296).bind fun t156 => (if t156 = 4294967296 then ((fix_Of.f 3).bind fun t157 => ((fix_Div.f k 4294967296 t157).bind fun t158 => (if t158 = 1431655765 then ((fix_Text.f k 4294967296).bind fun t159 => (some (t159.toList == ([49, 46, 48, 48, 48, 48, 48, 48, 48, 48, 48, 48] : List UInt8)))) else (none)))) else (none))) = some r := h
 clear h
 replace H := Option.bind_eq_some_iff.mp H
 obtain ⟨t156, A10, H⟩ := H
 (try dsimp only at H)
 have A1 := Aside0.mk A10
 clear A10
 by_cases c2 : t156 = 4294967296
 ·rw [if_pos c2] at H
  have c2b0 : (t156 == 4294967296) = true := beq_iff_eq.mpr c2
  have c2b1 : (t156 != 4294967296) = false := bne_eq_false_iff_eq.mpr c2
  clear c2
  replace H := Option.bind_eq_some_iff.mp H
  obtain ⟨t157, A30, H⟩ := H
  (try dsimp only at H)
  have A3 := Aside0.mk A30
  clear A30
  replace H := Option.bind_eq_some_iff.mp H
  obtain ⟨t158, A40, H⟩ := H
  (try dsimp only at H)
  have A4 := Aside0.mk A40
  clear A40
  by_cases c5 : t158 = 1431655765
  ·rw [if_pos c5] at H
   have c5b0 : (t158 == 1431655765) = true := beq_iff_eq.mpr c5
   have c5b1 : (t158 != 1431655765) = false := bne_eq_false_iff_eq.mpr c5
   clear c5
   replace H := Option.bind_eq_some_iff.mp H
   obtain ⟨t159, A60, H⟩ := H
   replace H : (some (t159.toList == ([49, 46, 48, 48, 48, 48, 48, 48, 48, 48, 48, 48] : List UInt8))) = some r := H
   have A6 := Aside0.mk A60
   clear A60
   obtain rfl := Option.some.inj H
   go_enter Tryd.func11, Tryd.ntmps11
   go_wp2_with (first | ((with_reducible refine gate_callee (f := 16) rfl ?_); refine zg_ (some 1) Tryd.func16 #[.int .i64 4294967296, .int .i64 4294967296] (h := ?_); (with_reducible refine (fix_Mul.calls k 4294967296 4294967296 t156 _ A1.out).mono ?_); rintro e w' ⟨rfl, ⟨nd, rfl⟩⟩; refine ⟨_, rfl, ?_⟩) | (go_at_call 12; (with_reducible refine (fix_Of.calls 3 t157 _ A3.out).mono ?_); rintro e w' ⟨rfl, ⟨nd, rfl⟩⟩) | (go_at_call 19; (with_reducible refine (fix_Div.calls k 4294967296 t157 t158 _ A4.out).mono ?_); rintro e w' ⟨rfl, ⟨nd, rfl⟩⟩) | (go_at_call 14; (with_reducible refine (fix_Text.calls k 4294967296 t159 _ A6.out).mono ?_); rintro e w7 ⟨rfl, hb⟩; replace HB := Aside0.mk (below_step (zw0_ HB) hb); (try clear hb)))
   go_ret
   exact ⟨by first | rfl | (simp [errW_none, errW_some] <;> rfl) | (simp [*, errW_none, errW_some] <;> rfl), zw0_ HB⟩
  ·rw [if_neg c5] at H
   exact absurd H (by simp)
 ·rw [if_neg c2] at H
  exact absurd H (by simp)

/-! ### carousellaw1_FixNear: function 4 -/
def carousellaw1_FixNear.f (k : Nat) (a0 : Int) (a1 : Int) : Option (Bool) := (carousellaw1_awake.f k).bind fun t160 => (if t160 = true then ((fix_Mul.f k (wrap64 (a0)) (wrap64 (a1))).bind fun t161 => (if (wrap64 ((wrap64 ((wrap64 (a0)) * (wrap64 (a1)))) - (wrap64 (t161 * 4294967296)))) ≤ 2147483648 then (if (wrap64 ((wrap64 ((wrap64 (a0)) * (wrap64 (a1)))) - (wrap64 (t161 * 4294967296)))) ≥ (-2147483648) then (if (wrap64 ((wrap64 ((wrap64 (a0)) * (wrap64 (a1)))) - (wrap64 (t161 * 4294967296)))) = 2147483648 then (some ((Go.bits .and .i64 t161 1) == 0)) else (if (wrap64 ((wrap64 ((wrap64 (a0)) * (wrap64 (a1)))) - (wrap64 (t161 * 4294967296)))) = (-2147483648) then (some ((Go.bits .and .i64 t161 1) == 0)) else (some true))) else (none)) else (none))) else (none))
theorem carousellaw1_FixNear.mono : ∀ a0 a1 k, LeO (carousellaw1_FixNear.f k a0 a1) (carousellaw1_FixNear.f (k + 1) a0 a1) := by
 intro a0 a1 k
 unfold carousellaw1_FixNear.f
 repeat' first
   | (with_reducible exact carousellaw1_awake.mono _)
   | (with_reducible exact fix_Mul.mono _ _ _)
   | (with_reducible exact LeO.refl _)
   | (with_reducible exact LeO.none _)
   | (with_reducible refine LeO.ite ?_ ?_)
   | (with_reducible refine LeO.bind ?_ (fun _ => ?_))
   | exact carousellaw1_awake.mono _
   | exact fix_Mul.mono _ _ _
   | exact LeO.none _
   | refine LeO.ite ?_ ?_
   | refine LeO.bind ?_ (fun _ => ?_)
set_option maxHeartbeats 8000000 in
set_option maxRecDepth 100000 in
theorem carousellaw1_FixNear.calls (k : Nat) (a0 : Int) (a1 : Int) (r : Bool) (w : World) (h : carousellaw1_FixNear.f k a0 a1 = some r) :
  Calls Tryd.prog 4 #[.int .i32 a0, .int .i32 a1] w fun e w' => e = .returned (.bool r) ∧ Below w.heap.size w w' := by
 have HB := Aside0.mk (Below.refl w.heap.size w)
 have H : ((carousellaw1_awake.f k).bind fun t160 => (if t160 = true then ((fix_Mul.f k (wrap64 (a0)) (wrap64 (a1))).bind fun t161 => (if (wrap64 ((wrap64 ((wrap64 (a0)) * (wrap64 (a1)))) - (wrap64 (t161 * 4294967296)))) ≤ 2147483648 then (if (wrap64 ((wrap64 ((wrap64 (a0)) * (wrap64 (a1)))) - (wrap64 (t161 * 4294967296)))) ≥ (-2147483648) then (if (wrap64 ((wrap64 ((wrap64 (a0)) * (wrap64 (a1)))) - (wrap64 (t161 * 4294967296)))) = 2147483648 then (some ((Go.bits .and .i64 t161 1) == 0)) else (if (wrap64 ((wrap64 ((wrap64 (a0)) * (wrap64 (a1)))) - (wrap64 (t161 * 4294967296)))) = (-2147483648) then (some ((Go.bits .and .i64 t161 1) == 0)) else (some true))) else (none)) else (none))) else (none))) = some r := h
 clear h
 replace H := Option.bind_eq_some_iff.mp H
 obtain ⟨t160, A30, H⟩ := H
 (try dsimp only at H)
 have A3 := Aside0.mk A30
 clear A30
 by_cases c4 : t160 = true
 ·subst c4
  have H1 := H
  rw [if_pos rfl] at H1
  clear H
  have H := H1
  clear H1
  replace H := Option.bind_eq_some_iff.mp H
  obtain ⟨t161, A50, H⟩ := H
  (try dsimp only at H)
  have A5 := Aside0.mk A50
  clear A50
  by_cases c6 : (wrap64 ((wrap64 ((wrap64 (a0)) * (wrap64 (a1)))) - (wrap64 (t161 * 4294967296)))) ≤ 2147483648
  ·rw [if_pos c6] at H
   have c6b0 : decide ((wrap64 ((wrap64 ((wrap64 (a0)) * (wrap64 (a1)))) - (wrap64 (t161 * 4294967296)))) ≤ 2147483648) = true := decide_eq_true c6
   clear c6
   by_cases c7 : (wrap64 ((wrap64 ((wrap64 (a0)) * (wrap64 (a1)))) - (wrap64 (t161 * 4294967296)))) ≥ (-2147483648)
   ·rw [if_pos c7] at H
    have c7b0 : decide ((-2147483648) ≤ (wrap64 ((wrap64 ((wrap64 (a0)) * (wrap64 (a1)))) - (wrap64 (t161 * 4294967296))))) = true := decide_eq_true c7
    clear c7
    by_cases c8 : (wrap64 ((wrap64 ((wrap64 (a0)) * (wrap64 (a1)))) - (wrap64 (t161 * 4294967296)))) = 2147483648
    ·rw [if_pos c8] at H
     have c8b0 : ((wrap64 ((wrap64 ((wrap64 (a0)) * (wrap64 (a1)))) - (wrap64 (t161 * 4294967296)))) == 2147483648) = true := beq_iff_eq.mpr c8
     have c8b1 : ((wrap64 ((wrap64 ((wrap64 (a0)) * (wrap64 (a1)))) - (wrap64 (t161 * 4294967296)))) != 2147483648) = false := bne_eq_false_iff_eq.mpr c8
     clear c8
     obtain rfl := Option.some.inj H
     go_enter Tryd.func4, Tryd.ntmps4
     go_wp2_with (first | ((with_reducible refine gate_callee (f := 11) rfl ?_); refine zg_ (some 8) Tryd.func11 #[] (h := ?_); (with_reducible refine (carousellaw1_awake.calls k  true _ A3.out).mono ?_); rintro e w9 ⟨rfl, hb⟩; refine ⟨_, rfl, ?_⟩; replace HB := Aside0.mk (below_step (zw0_ HB) hb); (try clear hb)) | ((with_reducible refine gate_callee (f := 16) rfl ?_); refine zg_ (some 19) Tryd.func16 #[.int .i64 (wrap64 (a0)), .int .i64 (wrap64 (a1))] (h := ?_); (with_reducible refine (fix_Mul.calls k (wrap64 (a0)) (wrap64 (a1)) t161 _ A5.out).mono ?_); rintro e w' ⟨rfl, ⟨nd, rfl⟩⟩; refine ⟨_, rfl, ?_⟩))
     go_ret
     exact ⟨by first | rfl | (simp [errW_none, errW_some] <;> rfl) | (simp [*, errW_none, errW_some] <;> rfl), zw0_ HB⟩
    ·rw [if_neg c8] at H
     have c8b0 : ((wrap64 ((wrap64 ((wrap64 (a0)) * (wrap64 (a1)))) - (wrap64 (t161 * 4294967296)))) == 2147483648) = false := beq_eq_false_iff_ne.mpr c8
     have c8b1 : ((wrap64 ((wrap64 ((wrap64 (a0)) * (wrap64 (a1)))) - (wrap64 (t161 * 4294967296)))) != 2147483648) = true := bne_iff_ne.mpr c8
     by_cases c10 : (wrap64 ((wrap64 ((wrap64 (a0)) * (wrap64 (a1)))) - (wrap64 (t161 * 4294967296)))) = (-2147483648)
     ·rw [if_pos c10] at H
      have c10b0 : ((wrap64 ((wrap64 ((wrap64 (a0)) * (wrap64 (a1)))) - (wrap64 (t161 * 4294967296)))) == (-2147483648)) = true := beq_iff_eq.mpr c10
      have c10b1 : ((wrap64 ((wrap64 ((wrap64 (a0)) * (wrap64 (a1)))) - (wrap64 (t161 * 4294967296)))) != (-2147483648)) = false := bne_eq_false_iff_eq.mpr c10
      clear c10
      obtain rfl := Option.some.inj H
      go_enter Tryd.func4, Tryd.ntmps4
      go_wp2_with (first | ((with_reducible refine gate_callee (f := 11) rfl ?_); refine zg_ (some 8) Tryd.func11 #[] (h := ?_); (with_reducible refine (carousellaw1_awake.calls k  true _ A3.out).mono ?_); rintro e w11 ⟨rfl, hb⟩; refine ⟨_, rfl, ?_⟩; replace HB := Aside0.mk (below_step (zw0_ HB) hb); (try clear hb)) | ((with_reducible refine gate_callee (f := 16) rfl ?_); refine zg_ (some 19) Tryd.func16 #[.int .i64 (wrap64 (a0)), .int .i64 (wrap64 (a1))] (h := ?_); (with_reducible refine (fix_Mul.calls k (wrap64 (a0)) (wrap64 (a1)) t161 _ A5.out).mono ?_); rintro e w' ⟨rfl, ⟨nd, rfl⟩⟩; refine ⟨_, rfl, ?_⟩))
      go_ret
      exact ⟨by first | rfl | (simp [errW_none, errW_some] <;> rfl) | (simp [*, errW_none, errW_some] <;> rfl), zw0_ HB⟩
     ·rw [if_neg c10] at H
      have c10b0 : ((wrap64 ((wrap64 ((wrap64 (a0)) * (wrap64 (a1)))) - (wrap64 (t161 * 4294967296)))) == (-2147483648)) = false := beq_eq_false_iff_ne.mpr c10
      have c10b1 : ((wrap64 ((wrap64 ((wrap64 (a0)) * (wrap64 (a1)))) - (wrap64 (t161 * 4294967296)))) != (-2147483648)) = true := bne_iff_ne.mpr c10
      obtain rfl := Option.some.inj H
      go_enter Tryd.func4, Tryd.ntmps4
      go_wp2_with (first | ((with_reducible refine gate_callee (f := 11) rfl ?_); refine zg_ (some 8) Tryd.func11 #[] (h := ?_); (with_reducible refine (carousellaw1_awake.calls k  true _ A3.out).mono ?_); rintro e w12 ⟨rfl, hb⟩; refine ⟨_, rfl, ?_⟩; replace HB := Aside0.mk (below_step (zw0_ HB) hb); (try clear hb)) | ((with_reducible refine gate_callee (f := 16) rfl ?_); refine zg_ (some 19) Tryd.func16 #[.int .i64 (wrap64 (a0)), .int .i64 (wrap64 (a1))] (h := ?_); (with_reducible refine (fix_Mul.calls k (wrap64 (a0)) (wrap64 (a1)) t161 _ A5.out).mono ?_); rintro e w' ⟨rfl, ⟨nd, rfl⟩⟩; refine ⟨_, rfl, ?_⟩))
      go_ret
      exact ⟨by first | rfl | (simp [errW_none, errW_some] <;> rfl) | (simp [*, errW_none, errW_some] <;> rfl), zw0_ HB⟩
   ·rw [if_neg c7] at H
    exact absurd H (by simp)
  ·rw [if_neg c6] at H
   exact absurd H (by simp)
 ·replace c4 := Bool.eq_false_iff.mpr c4
  subst c4
  have H1 : (none) = some r := by rw [if_neg (show ¬ (false = true) by decide)] at H; exact H
  clear H
  have H := H1
  clear H1
  exact absurd H (by simp)

/-- THE ONE PURE STATEMENT of carousellaw1_FixNear: yours. -/
def carousellaw1_FixNear.Pure : Prop := ∀ (a0 : Int) (a1 : Int), (Lit.int .i32 a0).wf = true → (Lit.int .i32 a1).wf = true → ∃ k, carousellaw1_FixNear.f k a0 a1 = some true
theorem carousellaw1_FixNear.walk (P : carousellaw1_FixNear.Pure) (a0 : Int) (a1 : Int) (w : World) (w0 : (Lit.int .i32 a0).wf = true) (w1 : (Lit.int .i32 a1).wf = true) :
  Calls Tryd.prog 4 #[.int .i32 a0, .int .i32 a1] w fun e w' => e = .returned (.bool true) ∧ Below w.heap.size w w' := by
 obtain ⟨k, h⟩ := P a0 a1 w0 w1
 refine (carousellaw1_FixNear.calls k a0 a1 true w h).mono ?_
 rintro e w' ⟨rfl, hd⟩
 exact ⟨rfl, hd⟩

end Go.Proofs.YtjiloachlemlcaaDoor.PFixNear
