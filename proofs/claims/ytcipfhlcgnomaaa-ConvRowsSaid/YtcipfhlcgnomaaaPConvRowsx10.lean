/- The functions that the law ConvRows reaches, as Lean functions, and that each call of the Go function does what its Lean function says, wherever that one answers. Written by a program of mine over the print of the kit; Lean checks it. -/
import Derived.Test.YtcipfhlcgnomaaaPConvRowsx0
import Derived.Test.YtcipfhlcgnomaaaPConvRowsx7
import Derived.Test.YtcipfhlcgnomaaaPConvRowsx8
import Derived.Test.YtcipfhlcgnomaaaPConvRowsx9
namespace Go.Proofs.Ytcipfhlcgnomaaa.PConvRows
open Go.RowKit Go.Proofs.YtcipfhlcgnomaaaW.PrintWords Go.Proofs.YtcipfhlcgnomaaaW.PrintLast Go.Proofs.YtcipfhlcgnomaaaW.PrintMore
attribute [local go_sem] max2_int min2_int max_two min_two max_three min_three max_four min_four   -- for this text's walks alone
set_option linter.unusedVariables false
set_option linter.unusedSimpArgs false

/-! ### carouselref5_Row: function 14 -/
mutual
def carouselref5_Row.j0 : Nat → Int → Bool → List Int → List Int → List Int → List Int → Option (List Int × List Int × Int)
 | 0, _, _, _, _, _, _ => none
 | k + 1, x2, x34, x297000, x297001, x298000, x298001 => if x34 = true then (some (([] : List Int), ([] : List Int), 1)) else (if (x297000.length : Int) = 2 then (if (x298000.length : Int) = 3 then (if 0 < (x297000.length : Int) then (if 1 < (x298000.length : Int) then (if (rd x297000 0) = (rd x298000 1) then (if 2 < (x298000.length : Int) then (if 1 < (x297000.length : Int) then (carouselref5_Row.j1 k x2 (decide ((rd x298000 2) > (rd x297000 1))) x297000 x297001 x298000 x298001) else (none)) else (none)) else (carouselref5_Row.j1 k x2 true x297000 x297001 x298000 x298001)) else (none)) else (none)) else (carouselref5_Row.j1 k x2 true x297000 x297001 x298000 x298001)) else (carouselref5_Row.j1 k x2 true x297000 x297001 x298000 x298001))
def carouselref5_Row.j1 : Nat → Int → Bool → List Int → List Int → List Int → List Int → Option (List Int × List Int × Int)
 | 0, _, _, _, _, _, _ => none
 | k + 1, x2, x67, x297000, x297001, x298000, x298001 => if x67 = true then (some (([] : List Int), ([] : List Int), 4)) else (if 0 < (x297000.length : Int) then (if 1 < (x297000.length : Int) then (if 0 < (x298000.length : Int) then (if 2 < (x298000.length : Int) then (if x2 = 0 then (none) else ((carouselref5_Good.f k (([rd x298000 0, wrap64 ((wrap64 (Int.tdiv (wrap64 ((rd x297000 1) - (rd x298000 2))) x2)) + 1)] : List Int))).bind fun t312 => (if t312 = true then ((carouselref5_New.f k (([rd x298000 0, wrap64 ((wrap64 (Int.tdiv (wrap64 ((rd x297000 1) - (rd x298000 2))) x2)) + 1)] : List Int)) 0).bind fun bt316 => (carouselref5_Row.l0 k x2 (rd x297000 0) (rd x297000 1) (rd x298000 0) (rd x298000 2) (wrap64 ((wrap64 (Int.tdiv (wrap64 ((rd x297000 1) - (rd x298000 2))) x2)) + 1)) 0 x297000 x297001 x298000 x298001 bt316.1 bt316.2)) else (some (([] : List Int), ([] : List Int), 2))))) else (none)) else (none)) else (none)) else (none))
def carouselref5_Row.l0 : Nat → Int → Int → Int → Int → Int → Int → Int → List Int → List Int → List Int → List Int → List Int → List Int → Option (List Int × List Int × Int)
 | 0, _, _, _, _, _, _, _, _, _, _, _, _, _ => none
 | k + 1, x2, x8, x9, x10, x11, x12, x14, x297000, x297001, x298000, x298001, x323000, x323001 => if x14 < x10 then (carouselref5_Row.l1 k x2 x8 x9 x10 x11 x12 x14 0 x297000 x297001 x298000 x298001 x323000 x323001) else (some (x323000, x323001, 0))
def carouselref5_Row.l1 : Nat → Int → Int → Int → Int → Int → Int → Int → Int → List Int → List Int → List Int → List Int → List Int → List Int → Option (List Int × List Int × Int)
 | 0, _, _, _, _, _, _, _, _, _, _, _, _, _, _ => none
 | k + 1, x2, x8, x9, x10, x11, x12, x14, x15, x297000, x297001, x298000, x298001, x323000, x323001 => if x15 < x12 then (carouselref5_Row.l2 k x2 x8 x9 x10 x11 x12 x14 x15 0 x297000 x297001 x298000 x298001 x323000 x323001 false 0 0 0 0) else (carouselref5_Row.l0 k x2 x8 x9 x10 x11 x12 (wrap64 (x14 + 1)) x297000 x297001 x298000 x298001 x323000 x323001)
def carouselref5_Row.l2 : Nat → Int → Int → Int → Int → Int → Int → Int → Int → Int → List Int → List Int → List Int → List Int → List Int → List Int → Bool → Int → Int → Int → Int → Option (List Int × List Int × Int)
 | 0, _, _, _, _, _, _, _, _, _, _, _, _, _, _, _, _, _, _, _, _ => none
 | k + 1, x2, x8, x9, x10, x11, x12, x14, x15, x17, x297000, x297001, x298000, x298001, x323000, x323001, x324000, x324001, x324002, x324003, x324004 => if x17 < x8 then (carouselref5_Row.l3 k x2 x8 x9 x10 x11 x12 x14 x15 x17 0 x297000 x297001 x298000 x298001 x323000 x323001 x324000 x324001 x324002 x324003 x324004) else ((carouselref1_Halved.f x324000 x324001 x324002 x324003 x324004 32).bind fun bt324 => ((carouselref1_Held.f k bt324.1 bt324.2.1 bt324.2.2.1 bt324.2.2.2.1 bt324.2.2.2.2).bind fun t329 => (if 0 ≤ (wrap64 ((wrap64 (x14 * x12)) + x15)) then (if (wrap64 ((wrap64 (x14 * x12)) + x15)) < (x323001.length : Int) then (carouselref5_Row.l1 k x2 x8 x9 x10 x11 x12 x14 (wrap64 (x15 + 1)) x297000 x297001 x298000 x298001 x323000 (x323001.set ((wrap64 ((wrap64 (x14 * x12)) + x15)) : Int).toNat t329)) else (none)) else (none))))
def carouselref5_Row.l3 : Nat → Int → Int → Int → Int → Int → Int → Int → Int → Int → Int → List Int → List Int → List Int → List Int → List Int → List Int → Bool → Int → Int → Int → Int → Option (List Int × List Int × Int)
 | 0, _, _, _, _, _, _, _, _, _, _, _, _, _, _, _, _, _, _, _, _, _ => none
 | k + 1, x2, x8, x9, x10, x11, x12, x14, x15, x17, x18, x297000, x297001, x298000, x298001, x323000, x323001, x324000, x324001, x324002, x324003, x324004 => if x18 < x11 then (if 0 ≤ (wrap64 ((wrap64 ((wrap64 (x17 * x9)) + (wrap64 (x15 * x2)))) + x18)) then (if (wrap64 ((wrap64 ((wrap64 (x17 * x9)) + (wrap64 (x15 * x2)))) + x18)) < (x297001.length : Int) then (if 0 ≤ (wrap64 ((wrap64 ((wrap64 ((wrap64 (x14 * x8)) + x17)) * x11)) + x18)) then (if (wrap64 ((wrap64 ((wrap64 ((wrap64 (x14 * x8)) + x17)) * x11)) + x18)) < (x298001.length : Int) then ((carouselref1_Times.f (rd x297001 (wrap64 ((wrap64 ((wrap64 (x17 * x9)) + (wrap64 (x15 * x2)))) + x18))) (rd x298001 (wrap64 ((wrap64 ((wrap64 ((wrap64 (x14 * x8)) + x17)) * x11)) + x18)))).bind fun bt333 => ((carouselref1_Plus.f x324000 x324001 x324002 x324003 x324004 bt333.1 bt333.2.1 bt333.2.2.1 bt333.2.2.2.1 bt333.2.2.2.2).bind fun bt338 => (carouselref5_Row.l3 k x2 x8 x9 x10 x11 x12 x14 x15 x17 (wrap64 (x18 + 1)) x297000 x297001 x298000 x298001 x323000 x323001 bt338.1 bt338.2.1 bt338.2.2.1 bt338.2.2.2.1 bt338.2.2.2.2))) else (none)) else (none)) else (none)) else (none)) else (carouselref5_Row.l2 k x2 x8 x9 x10 x11 x12 x14 x15 (wrap64 (x17 + 1)) x297000 x297001 x298000 x298001 x323000 x323001 x324000 x324001 x324002 x324003 x324004)
end
def carouselref5_Row.f (k : Nat) (l0_0 : List Int) (l0_1 : List Int) (l1_0 : List Int) (l1_1 : List Int) (a2 : Int) : Option (List Int × List Int × Int) := (carouselref5_Is.f k l0_0 l0_1).bind fun t299 => (if t299 = true then ((carouselref5_Is.f k l1_0 l1_1).bind fun t300 => (if t300 = true then (if a2 < 1 then (carouselref5_Row.j0 k a2 true l0_0 l0_1 l1_0 l1_1) else (carouselref5_Row.j0 k a2 (decide (a2 > 64)) l0_0 l0_1 l1_0 l1_1)) else (carouselref5_Row.j0 k a2 true l0_0 l0_1 l1_0 l1_1))) else (carouselref5_Row.j0 k a2 true l0_0 l0_1 l1_0 l1_1))
theorem carouselref5_Row.mono_l : ∀ k, (∀ y0 y1 y2 y3 y4 y5, LeO (carouselref5_Row.j0 k y0 y1 y2 y3 y4 y5) (carouselref5_Row.j0 (k + 1) y0 y1 y2 y3 y4 y5)) ∧ (∀ y0 y1 y2 y3 y4 y5, LeO (carouselref5_Row.j1 k y0 y1 y2 y3 y4 y5) (carouselref5_Row.j1 (k + 1) y0 y1 y2 y3 y4 y5)) ∧ (∀ y0 y1 y2 y3 y4 y5 y6 y7 y8 y9 y10 y11 y12, LeO (carouselref5_Row.l0 k y0 y1 y2 y3 y4 y5 y6 y7 y8 y9 y10 y11 y12) (carouselref5_Row.l0 (k + 1) y0 y1 y2 y3 y4 y5 y6 y7 y8 y9 y10 y11 y12)) ∧ (∀ y0 y1 y2 y3 y4 y5 y6 y7 y8 y9 y10 y11 y12 y13, LeO (carouselref5_Row.l1 k y0 y1 y2 y3 y4 y5 y6 y7 y8 y9 y10 y11 y12 y13) (carouselref5_Row.l1 (k + 1) y0 y1 y2 y3 y4 y5 y6 y7 y8 y9 y10 y11 y12 y13)) ∧ (∀ y0 y1 y2 y3 y4 y5 y6 y7 y8 y9 y10 y11 y12 y13 y14 y15 y16 y17 y18 y19, LeO (carouselref5_Row.l2 k y0 y1 y2 y3 y4 y5 y6 y7 y8 y9 y10 y11 y12 y13 y14 y15 y16 y17 y18 y19) (carouselref5_Row.l2 (k + 1) y0 y1 y2 y3 y4 y5 y6 y7 y8 y9 y10 y11 y12 y13 y14 y15 y16 y17 y18 y19)) ∧ (∀ y0 y1 y2 y3 y4 y5 y6 y7 y8 y9 y10 y11 y12 y13 y14 y15 y16 y17 y18 y19 y20, LeO (carouselref5_Row.l3 k y0 y1 y2 y3 y4 y5 y6 y7 y8 y9 y10 y11 y12 y13 y14 y15 y16 y17 y18 y19 y20) (carouselref5_Row.l3 (k + 1) y0 y1 y2 y3 y4 y5 y6 y7 y8 y9 y10 y11 y12 y13 y14 y15 y16 y17 y18 y19 y20))
 | 0 => ⟨fun _ _ _ _ _ _ r h => by simp [carouselref5_Row.j0] at h, fun _ _ _ _ _ _ r h => by simp [carouselref5_Row.j1] at h, fun _ _ _ _ _ _ _ _ _ _ _ _ _ r h => by simp [carouselref5_Row.l0] at h, fun _ _ _ _ _ _ _ _ _ _ _ _ _ _ r h => by simp [carouselref5_Row.l1] at h, fun _ _ _ _ _ _ _ _ _ _ _ _ _ _ _ _ _ _ _ _ r h => by simp [carouselref5_Row.l2] at h, fun _ _ _ _ _ _ _ _ _ _ _ _ _ _ _ _ _ _ _ _ _ r h => by simp [carouselref5_Row.l3] at h⟩
 | k + 1 => by
  obtain ⟨ih0, ih1, ih2, ih3, ih4, ih5⟩ := carouselref5_Row.mono_l k
  refine ⟨?_, ?_, ?_, ?_, ?_, ?_⟩
  ·intro y0 y1 y2 y3 y4 y5
   unfold carouselref5_Row.j0
   repeat' first
   | (with_reducible exact ih0 _ _ _ _ _ _)
   | (with_reducible exact ih1 _ _ _ _ _ _)
   | (with_reducible exact ih2 _ _ _ _ _ _ _ _ _ _ _ _ _)
   | (with_reducible exact ih3 _ _ _ _ _ _ _ _ _ _ _ _ _ _)
   | (with_reducible exact ih4 _ _ _ _ _ _ _ _ _ _ _ _ _ _ _ _ _ _ _ _)
   | (with_reducible exact ih5 _ _ _ _ _ _ _ _ _ _ _ _ _ _ _ _ _ _ _ _ _)
   | (with_reducible exact LeO.refl _)
   | (with_reducible exact LeO.none _)
   | (with_reducible refine LeO.ite ?_ ?_)
   | (with_reducible refine LeO.bind ?_ (fun _ => ?_))
   | exact ih0 _ _ _ _ _ _
   | exact ih1 _ _ _ _ _ _
   | exact ih2 _ _ _ _ _ _ _ _ _ _ _ _ _
   | exact ih3 _ _ _ _ _ _ _ _ _ _ _ _ _ _
   | exact ih4 _ _ _ _ _ _ _ _ _ _ _ _ _ _ _ _ _ _ _ _
   | exact ih5 _ _ _ _ _ _ _ _ _ _ _ _ _ _ _ _ _ _ _ _ _
   | exact LeO.none _
   | refine LeO.ite ?_ ?_
   | refine LeO.bind ?_ (fun _ => ?_)
  ·intro y0 y1 y2 y3 y4 y5
   unfold carouselref5_Row.j1
   repeat' first
   | (with_reducible exact ih0 _ _ _ _ _ _)
   | (with_reducible exact ih1 _ _ _ _ _ _)
   | (with_reducible exact ih2 _ _ _ _ _ _ _ _ _ _ _ _ _)
   | (with_reducible exact ih3 _ _ _ _ _ _ _ _ _ _ _ _ _ _)
   | (with_reducible exact ih4 _ _ _ _ _ _ _ _ _ _ _ _ _ _ _ _ _ _ _ _)
   | (with_reducible exact ih5 _ _ _ _ _ _ _ _ _ _ _ _ _ _ _ _ _ _ _ _ _)
   | (with_reducible exact carouselref5_Good.mono _ _)
   | (with_reducible exact carouselref5_New.mono _ _ _)
   | (with_reducible exact LeO.refl _)
   | (with_reducible exact LeO.none _)
   | (with_reducible refine LeO.ite ?_ ?_)
   | (with_reducible refine LeO.bind ?_ (fun _ => ?_))
   | exact ih0 _ _ _ _ _ _
   | exact ih1 _ _ _ _ _ _
   | exact ih2 _ _ _ _ _ _ _ _ _ _ _ _ _
   | exact ih3 _ _ _ _ _ _ _ _ _ _ _ _ _ _
   | exact ih4 _ _ _ _ _ _ _ _ _ _ _ _ _ _ _ _ _ _ _ _
   | exact ih5 _ _ _ _ _ _ _ _ _ _ _ _ _ _ _ _ _ _ _ _ _
   | exact carouselref5_Good.mono _ _
   | exact carouselref5_New.mono _ _ _
   | exact LeO.none _
   | refine LeO.ite ?_ ?_
   | refine LeO.bind ?_ (fun _ => ?_)
  ·intro y0 y1 y2 y3 y4 y5 y6 y7 y8 y9 y10 y11 y12
   unfold carouselref5_Row.l0
   repeat' first
   | (with_reducible exact ih0 _ _ _ _ _ _)
   | (with_reducible exact ih1 _ _ _ _ _ _)
   | (with_reducible exact ih2 _ _ _ _ _ _ _ _ _ _ _ _ _)
   | (with_reducible exact ih3 _ _ _ _ _ _ _ _ _ _ _ _ _ _)
   | (with_reducible exact ih4 _ _ _ _ _ _ _ _ _ _ _ _ _ _ _ _ _ _ _ _)
   | (with_reducible exact ih5 _ _ _ _ _ _ _ _ _ _ _ _ _ _ _ _ _ _ _ _ _)
   | (with_reducible exact LeO.refl _)
   | (with_reducible exact LeO.none _)
   | (with_reducible refine LeO.ite ?_ ?_)
   | (with_reducible refine LeO.bind ?_ (fun _ => ?_))
   | exact ih0 _ _ _ _ _ _
   | exact ih1 _ _ _ _ _ _
   | exact ih2 _ _ _ _ _ _ _ _ _ _ _ _ _
   | exact ih3 _ _ _ _ _ _ _ _ _ _ _ _ _ _
   | exact ih4 _ _ _ _ _ _ _ _ _ _ _ _ _ _ _ _ _ _ _ _
   | exact ih5 _ _ _ _ _ _ _ _ _ _ _ _ _ _ _ _ _ _ _ _ _
   | exact LeO.none _
   | refine LeO.ite ?_ ?_
   | refine LeO.bind ?_ (fun _ => ?_)
  ·intro y0 y1 y2 y3 y4 y5 y6 y7 y8 y9 y10 y11 y12 y13
   unfold carouselref5_Row.l1
   repeat' first
   | (with_reducible exact ih0 _ _ _ _ _ _)
   | (with_reducible exact ih1 _ _ _ _ _ _)
   | (with_reducible exact ih2 _ _ _ _ _ _ _ _ _ _ _ _ _)
   | (with_reducible exact ih3 _ _ _ _ _ _ _ _ _ _ _ _ _ _)
   | (with_reducible exact ih4 _ _ _ _ _ _ _ _ _ _ _ _ _ _ _ _ _ _ _ _)
   | (with_reducible exact ih5 _ _ _ _ _ _ _ _ _ _ _ _ _ _ _ _ _ _ _ _ _)
   | (with_reducible exact LeO.refl _)
   | (with_reducible exact LeO.none _)
   | (with_reducible refine LeO.ite ?_ ?_)
   | (with_reducible refine LeO.bind ?_ (fun _ => ?_))
   | exact ih0 _ _ _ _ _ _
   | exact ih1 _ _ _ _ _ _
   | exact ih2 _ _ _ _ _ _ _ _ _ _ _ _ _
   | exact ih3 _ _ _ _ _ _ _ _ _ _ _ _ _ _
   | exact ih4 _ _ _ _ _ _ _ _ _ _ _ _ _ _ _ _ _ _ _ _
   | exact ih5 _ _ _ _ _ _ _ _ _ _ _ _ _ _ _ _ _ _ _ _ _
   | exact LeO.none _
   | refine LeO.ite ?_ ?_
   | refine LeO.bind ?_ (fun _ => ?_)
  ·intro y0 y1 y2 y3 y4 y5 y6 y7 y8 y9 y10 y11 y12 y13 y14 y15 y16 y17 y18 y19
   unfold carouselref5_Row.l2
   repeat' first
   | (with_reducible exact ih0 _ _ _ _ _ _)
   | (with_reducible exact ih1 _ _ _ _ _ _)
   | (with_reducible exact ih2 _ _ _ _ _ _ _ _ _ _ _ _ _)
   | (with_reducible exact ih3 _ _ _ _ _ _ _ _ _ _ _ _ _ _)
   | (with_reducible exact ih4 _ _ _ _ _ _ _ _ _ _ _ _ _ _ _ _ _ _ _ _)
   | (with_reducible exact ih5 _ _ _ _ _ _ _ _ _ _ _ _ _ _ _ _ _ _ _ _ _)
   | (with_reducible exact carouselref1_Held.mono _ _ _ _ _ _)
   | (with_reducible exact LeO.refl _)
   | (with_reducible exact LeO.none _)
   | (with_reducible refine LeO.ite ?_ ?_)
   | (with_reducible refine LeO.bind ?_ (fun _ => ?_))
   | exact ih0 _ _ _ _ _ _
   | exact ih1 _ _ _ _ _ _
   | exact ih2 _ _ _ _ _ _ _ _ _ _ _ _ _
   | exact ih3 _ _ _ _ _ _ _ _ _ _ _ _ _ _
   | exact ih4 _ _ _ _ _ _ _ _ _ _ _ _ _ _ _ _ _ _ _ _
   | exact ih5 _ _ _ _ _ _ _ _ _ _ _ _ _ _ _ _ _ _ _ _ _
   | exact carouselref1_Held.mono _ _ _ _ _ _
   | exact LeO.none _
   | refine LeO.ite ?_ ?_
   | refine LeO.bind ?_ (fun _ => ?_)
  ·intro y0 y1 y2 y3 y4 y5 y6 y7 y8 y9 y10 y11 y12 y13 y14 y15 y16 y17 y18 y19 y20
   unfold carouselref5_Row.l3
   repeat' first
   | (with_reducible exact ih0 _ _ _ _ _ _)
   | (with_reducible exact ih1 _ _ _ _ _ _)
   | (with_reducible exact ih2 _ _ _ _ _ _ _ _ _ _ _ _ _)
   | (with_reducible exact ih3 _ _ _ _ _ _ _ _ _ _ _ _ _ _)
   | (with_reducible exact ih4 _ _ _ _ _ _ _ _ _ _ _ _ _ _ _ _ _ _ _ _)
   | (with_reducible exact ih5 _ _ _ _ _ _ _ _ _ _ _ _ _ _ _ _ _ _ _ _ _)
   | (with_reducible exact LeO.refl _)
   | (with_reducible exact LeO.none _)
   | (with_reducible refine LeO.ite ?_ ?_)
   | (with_reducible refine LeO.bind ?_ (fun _ => ?_))
   | exact ih0 _ _ _ _ _ _
   | exact ih1 _ _ _ _ _ _
   | exact ih2 _ _ _ _ _ _ _ _ _ _ _ _ _
   | exact ih3 _ _ _ _ _ _ _ _ _ _ _ _ _ _
   | exact ih4 _ _ _ _ _ _ _ _ _ _ _ _ _ _ _ _ _ _ _ _
   | exact ih5 _ _ _ _ _ _ _ _ _ _ _ _ _ _ _ _ _ _ _ _ _
   | exact LeO.none _
   | refine LeO.ite ?_ ?_
   | refine LeO.bind ?_ (fun _ => ?_)
theorem carouselref5_Row.mono : ∀ a0 a1 a2 a3 a4 k, LeO (carouselref5_Row.f k a0 a1 a2 a3 a4) (carouselref5_Row.f (k + 1) a0 a1 a2 a3 a4) := by
 intro a0 a1 a2 a3 a4 k
 obtain ⟨ih0, ih1, ih2, ih3, ih4, ih5⟩ := carouselref5_Row.mono_l k
 unfold carouselref5_Row.f
 repeat' first
   | (with_reducible exact ih0 _ _ _ _ _ _)
   | (with_reducible exact ih1 _ _ _ _ _ _)
   | (with_reducible exact ih2 _ _ _ _ _ _ _ _ _ _ _ _ _)
   | (with_reducible exact ih3 _ _ _ _ _ _ _ _ _ _ _ _ _ _)
   | (with_reducible exact ih4 _ _ _ _ _ _ _ _ _ _ _ _ _ _ _ _ _ _ _ _)
   | (with_reducible exact ih5 _ _ _ _ _ _ _ _ _ _ _ _ _ _ _ _ _ _ _ _ _)
   | (with_reducible exact carouselref5_Is.mono _ _ _)
   | (with_reducible exact LeO.refl _)
   | (with_reducible exact LeO.none _)
   | (with_reducible refine LeO.ite ?_ ?_)
   | (with_reducible refine LeO.bind ?_ (fun _ => ?_))
   | exact ih0 _ _ _ _ _ _
   | exact ih1 _ _ _ _ _ _
   | exact ih2 _ _ _ _ _ _ _ _ _ _ _ _ _
   | exact ih3 _ _ _ _ _ _ _ _ _ _ _ _ _ _
   | exact ih4 _ _ _ _ _ _ _ _ _ _ _ _ _ _ _ _ _ _ _ _
   | exact ih5 _ _ _ _ _ _ _ _ _ _ _ _ _ _ _ _ _ _ _ _ _
   | exact carouselref5_Is.mono _ _ _
   | exact LeO.none _
   | refine LeO.ite ?_ ?_
   | refine LeO.bind ?_ (fun _ => ?_)
def carouselref5_Row.T3 : Bool × List (List Nat × List Nat) := (true, [([], []), ([0], [0]), ([1], [1]), ([2], [2]), ([3], [3]), ([4], [4]), ([5, 4], [4, 5]), ([6, 4], [4, 6]), ([7, 4], [4, 7]), ([4, 8], [4, 8]), ([9, 4], [9]), ([10], [10]), ([11, 10], [10, 11]), ([12, 10], [10, 12]), ([13, 10], [10, 13]), ([10], [10]), ([15, 10], [10, 15]), ([16, 10], [10, 16]), ([17, 10], [10, 17]), ([14, 18, 10], [10, 14, 18]), ([10, 19], [10, 19]), ([20, 10], [20]), ([21], [21]), ([22, 21], [21, 22]), ([23, 21], [21, 23]), ([24, 21], [21, 24]), ([21], [21]), ([26, 21], [21, 26]), ([27, 21], [21, 27]), ([28, 21], [21, 28]), ([25, 29, 21], [21, 25, 29]), ([21, 30], [21, 30])])
def carouselref5_Row.B3 : List Nat := [0, 1, 3, 7, 15, 31, 63, 127, 255, 511, 1023, 2047, 4095, 8191, 16383, 2047, 34815, 100351, 231423, 524287, 1048575, 2097151, 4194303, 8388607, 16777215, 33554431, 4194303, 71303167, 205520895, 473956351, 1073741823, 2147483647]
theorem carouselref5_Row.tab3 : rtab .any (opsOf Try.f14 3) = carouselref5_Row.T3 := by kernel_rfl
theorem carouselref5_Row.bits3 : waitsOk carouselref5_Row.T3.2 carouselref5_Row.B3 = true := by kernel_rfl
def carouselref5_Row.T5 : Bool × List (List Nat × List Nat) := (true, [([], []), ([0], [0]), ([1], [1]), ([2], [2]), ([], []), ([4], [4]), ([5], [5]), ([6], [6]), ([], []), ([8], [8]), ([9], [9]), ([10], [10]), ([], []), ([12], [12]), ([13], [13]), ([14], [14]), ([3, 0, 1, 2, 3], [3]), ([7, 16, 0, 1, 2, 3, 4, 5, 6, 7, 16], [7]), ([11, 17, 0, 1, 2, 3, 4, 5, 6, 7, 8, 9, 10, 11, 16, 17], [11]), ([15, 18, 0, 1, 2, 3, 4, 5, 6, 7, 8, 9, 10, 11, 12, 13, 14, 15, 16, 17, 18], [15])])
def carouselref5_Row.B5 : List Nat := [0, 1, 3, 7, 0, 16, 48, 112, 0, 256, 768, 1792, 0, 4096, 12288, 28672, 15, 65791, 200703, 524287]
theorem carouselref5_Row.tab5 : rtab .any (opsOf Try.f14 5) = carouselref5_Row.T5 := by kernel_rfl
theorem carouselref5_Row.bits5 : waitsOk carouselref5_Row.T5.2 carouselref5_Row.B5 = true := by kernel_rfl
def carouselref5_Row.T23 : Bool × List (List Nat × List Nat) := (true, [([], []), ([], []), ([1], [1]), ([], []), ([], []), ([3, 4], [3, 4]), ([], []), ([], []), ([6, 7], [6, 7]), ([5, 8], [5, 8]), ([], []), ([9, 10], [9, 10]), ([2, 11], [2, 11]), ([12], [12]), ([], []), ([14], [14]), ([], []), ([], []), ([16, 17], [16, 17]), ([], []), ([18, 19], [18, 19]), ([], []), ([20, 21], [20, 21]), ([], []), ([22, 23], [22, 23]), ([15, 24], [15, 24]), ([25], [25]), ([13, 26], [13, 26]), ([0, 27, 27], [0, 27]), ([28, 28, 0, 1, 2, 3, 4, 5, 6, 7, 8, 9, 10, 11, 12, 13, 14, 15, 16, 17, 18, 19, 20, 21, 22, 23, 24, 25, 26, 27, 28], [28])])
def carouselref5_Row.B23 : List Nat := [0, 0, 2, 0, 0, 24, 0, 0, 192, 504, 0, 2040, 4094, 8190, 0, 16384, 0, 0, 196608, 0, 983040, 0, 4128768, 0, 16711680, 33538048, 67092480, 134217726, 268435455, 536870911]
theorem carouselref5_Row.tab23 : rtab .any (opsOf Try.f14 23) = carouselref5_Row.T23 := by kernel_rfl
theorem carouselref5_Row.bits23 : waitsOk carouselref5_Row.T23.2 carouselref5_Row.B23 = true := by kernel_rfl
def carouselref5_Row.T24 : Bool × List (List Nat × List Nat) := (true, [([], []), ([0], [0]), ([], []), ([], []), ([2, 3], [2, 3]), ([], []), ([4, 5], [4, 5]), ([], []), ([7], [7]), ([8, 8], [8]), ([1, 6, 0, 1, 2, 3, 4, 5, 6, 7, 8, 9], [1, 6]), ([10, 9, 9, 0, 1, 2, 3, 4, 5, 6, 7, 8, 9], [9, 10])])
def carouselref5_Row.B24 : List Nat := [0, 1, 0, 0, 12, 0, 60, 0, 128, 384, 1023, 2047]
theorem carouselref5_Row.tab24 : rtab .any (opsOf Try.f14 24) = carouselref5_Row.T24 := by kernel_rfl
theorem carouselref5_Row.bits24 : waitsOk carouselref5_Row.T24.2 carouselref5_Row.B24 = true := by kernel_rfl
set_option maxHeartbeats 8000000 in
set_option maxRecDepth 100000 in
theorem carouselref5_Row.calls (k : Nat) (A0_0 : Option Addr) (c0_0 : Nat) (l0_0 : List Int) (A0_1 : Option Addr) (c0_1 : Nat) (l0_1 : List Int) (A1_0 : Option Addr) (c1_0 : Nat) (l1_0 : List Int) (A1_1 : Option Addr) (c1_1 : Nat) (l1_1 : List Int) (a2 : Int) (r1 : List Int) (r2 : List Int) (r3 : Int) (w : World) (hr0_0 : Kd.C (Kd.int .i64) w A0_0 l0_0.length l0_0) (hc0_0 : l0_0.length ≤ c0_0) (hr0_1 : Kd.C (Kd.int .i64) w A0_1 l0_1.length l0_1) (hc0_1 : l0_1.length ≤ c0_1) (hr1_0 : Kd.C (Kd.int .i64) w A1_0 l1_0.length l1_0) (hc1_0 : l1_0.length ≤ c1_0) (hr1_1 : Kd.C (Kd.int .i64) w A1_1 l1_1.length l1_1) (hc1_1 : l1_1.length ≤ c1_1) (h : carouselref5_Row.f k l0_0 l0_1 l1_0 l1_1 a2 = some (r1, r2, r3)) :
  Calls Try.prog 14 #[.agg #[.slice A0_0 l0_0.length c0_0, .slice A0_1 l0_1.length c0_1], .agg #[.slice A1_0 l1_0.length c1_0, .slice A1_1 l1_1.length c1_1], .int .i64 a2] w fun e w' => ∃ v0_ v1_ : Value, e = .returned (.tuple #[.agg #[v0_, v1_], .int .i64 r3]) ∧ Kd.R (Kd.int .i64) 3 w' w.heap.size (fun _ => True) v0_ r1 ∧ Kd.R (Kd.int .i64) 33 w' w.heap.size (fun _ => True) v1_ r2 ∧ Below w.heap.size w w' := by
 have hu25 := Try.underlying25
 have hu61 := Try.underlying61
 have HR0_0 := Aside0.mk hr0_0
 have HC0_0 := Aside0.mk hc0_0
 clear hr0_0 hc0_0
 have HR0_1 := Aside0.mk hr0_1
 have HC0_1 := Aside0.mk hc0_1
 clear hr0_1 hc0_1
 have HR1_0 := Aside0.mk hr1_0
 have HC1_0 := Aside0.mk hc1_0
 clear hr1_0 hc1_0
 have HR1_1 := Aside0.mk hr1_1
 have HC1_1 := Aside0.mk hc1_1
 clear hr1_1 hc1_1
 have HB := Aside0.mk (Below.refl w.heap.size w)
 have H : ((carouselref5_Is.f k l0_0 l0_1).bind fun t299 => (if t299 = true then ((carouselref5_Is.f k l1_0 l1_1).bind fun t300 => (if t300 = true then (if a2 < 1 then (carouselref5_Row.j0 k a2 true l0_0 l0_1 l1_0 l1_1) else (carouselref5_Row.j0 k a2 (decide (a2 > 64)) l0_0 l0_1 l1_0 l1_1)) else (carouselref5_Row.j0 k a2 true l0_0 l0_1 l1_0 l1_1))) else (carouselref5_Row.j0 k a2 true l0_0 l0_1 l1_0 l1_1))) = some (r1, r2, r3) := h
 clear h
 have HC4 := Aside0.mk H
 clear H
 go_enter Try.func14, Try.ntmps14
 go_upto_region 1 with (first | ((with_reducible refine gate_dst (N := 3) rfl ?_); (try (refine gate_guard (by rfl) ?_; dsimp only)); refine box_event ?hg (N := 3) ?hd (cs := #[.slice A0_0 l0_0.length c0_0, .slice A0_1 l0_1.length c0_1]) (t := 25) ?hr ?_; (case hd => rfl); (case hg => rfl); (case hr => first | (go_simp; done) | (go_simp; rfl)); intro gb296 hg w5 hbox hb; have BK296 := Aside0.mk (hbox); have GW296 := Aside0.mk (zs_ hg (zw0_ HB)); have GE296 := Aside0.mk (zs_ hg (zw0_ HB)); replace HB := Aside0.mk (below_step (zw0_ HB) hb); clear hb hbox hg) | ((with_reducible refine gate_dst (N := 4) rfl ?_); (try (refine gate_guard (by rfl) ?_; dsimp only)); refine box_event ?hg (N := 4) ?hd (cs := #[.slice A1_0 l1_0.length c1_0, .slice A1_1 l1_1.length c1_1]) (t := 25) ?hr ?_; (case hd => rfl); (case hg => rfl); (case hr => first | (go_simp; done) | (go_simp; rfl)); intro gb297 hg w6 hbox hb; have BK297 := Aside0.mk (hbox); have GW297 := Aside0.mk (zs_ hg (zw1_ HB GE296)); have GE297 := Aside0.mk (zs_ hg (zw1_ HB GE296)); replace HB := Aside0.mk (below_step (zw1_ HB GE296) hb); have NB296_297 := Aside0.mk (zn_ hg BK296); have NB297_296 := Aside0.mk (zm_ hg BK296); replace BK296 := Aside0.mk (zl_ BK296 hb); clear hb hbox hg) | ((with_reducible refine gate_dst (N := 6) rfl ?_); (try (refine gate_guard (by rfl) ?_; dsimp only)); refine box_event ?hg (N := 6) ?hd (cs := #[.slice none 0 0, .slice none 0 0]) (t := 25) ?hr ?_; (case hd => rfl); (case hg => rfl); (case hr => first | (go_simp; done) | (go_simp; rfl)); intro gb298 hg w7 hbox hb; have BK298 := Aside0.mk (hbox); have GW298 := Aside0.mk (zs_ hg (zw2_ HB GE296 GE297)); have GE298 := Aside0.mk (zs_ hg (zw2_ HB GE296 GE297)); replace HB := Aside0.mk (below_step (zw2_ HB GE296 GE297) hb); have NB296_298 := Aside0.mk (zn_ hg BK296); have NB298_296 := Aside0.mk (zm_ hg BK296); replace BK296 := Aside0.mk (zl_ BK296 hb); have NB297_298 := Aside0.mk (zn_ hg BK297); have NB298_297 := Aside0.mk (zm_ hg BK297); replace BK297 := Aside0.mk (zl_ BK297 hb); clear hb hbox hg))
 (try simp only [Act.put, List.setIfInBounds_toArray, List.set_cons_zero, List.set_cons_succ])
 go_cut [34] (fun v34 wc => ∃ (kq : Nat) (x34_3 : Bool), v34 = .bool x34_3 ∧ Aside0 (carouselref5_Row.j0 kq a2 x34_3 l0_0 l0_1 l1_0 l1_1 = some (r1, r2, r3)) ∧ Aside0 (kq ≤ k) ∧ Aside0 (wc.heap[gb296]? = some (.cells #[(.slice A0_0 l0_0.length c0_0), (.slice A0_1 l0_1.length c0_1)] 25 (0, 0))) ∧ Aside0 (wc.heap[gb297]? = some (.cells #[(.slice A1_0 l1_0.length c1_0), (.slice A1_1 l1_1.length c1_1)] 25 (0, 0))) ∧ Aside0 (wc.heap[gb298]? = some (.cells #[(.slice none 0 0), (.slice none 0 0)] 25 (0, 0))) ∧ Aside0 (Below w.heap.size w wc))
 case first =>
  have H := HC4.out
  clear HC4
  replace H := Option.bind_eq_some_iff.mp H
  obtain ⟨t299, A80, H⟩ := H
  (try dsimp only at H)
  have A8 := Aside0.mk A80
  clear A80
  by_cases c9 : t299 = true
  ·subst c9
   have H1 := H
   rw [if_pos rfl] at H1
   clear H
   have H := H1
   clear H1
   replace H := Option.bind_eq_some_iff.mp H
   obtain ⟨t300, A100, H⟩ := H
   (try dsimp only at H)
   have A10 := Aside0.mk A100
   clear A100
   by_cases c11 : t300 = true
   ·subst c11
    have H1 := H
    rw [if_pos rfl] at H1
    clear H
    have H := H1
    clear H1
    by_cases c12 : a2 < 1
    ·rw [if_pos c12] at H
     have c12b0 : decide (a2 < 1) = true := decide_eq_true c12
     clear c12
     (first | rw [c12b0] | (simp only [i64_w, i32_w]; rw [c12b0]) | skip)
     have H' := Aside0.mk H
     clear H
     have hnb13 := NB296_297.out
     have hnc13 := NB297_296.out
     have hnb14 := NB296_298.out
     have hnc14 := NB298_296.out
     have hcz15_0 := zx_ (v := .slice A0_0 l0_0.length c0_0) BK296 0
     have hcz15_1 := zx_ (v := .slice A0_1 l0_1.length c0_1) BK296 1
     have hfz15_0 := blk_frozen BK296.out 0
     have hfz15_1 := blk_frozen BK296.out 1
     go_wp2_with (first | ((with_reducible refine gate_callee (f := 32) rfl ?_); refine zg_ (some 20) Try.func32 #[.agg #[.slice A0_0 l0_0.length c0_0, .slice A0_1 l0_1.length c0_1]] (h := ?_); (with_reducible refine (carouselref5_Is.calls k _ _ l0_0 _ _ l0_1 true _ ?side1 ?side2 ?side3 ?side4 A8.out).mono ?_); (case side1 => exact zk_ (Kd.C_below HR0_0.out HB.out)); (case side2 => exact HC0_0.out); (case side3 => exact zk_ (Kd.C_below HR0_1.out HB.out)); (case side4 => exact HC0_1.out); rintro e w16 ⟨rfl, hb⟩; refine ⟨_, rfl, ?_⟩; replace BK296 := Aside0.mk (zl_ BK296 hb); replace BK297 := Aside0.mk (zl_ BK297 hb); replace BK298 := Aside0.mk (zl_ BK298 hb); replace HB := Aside0.mk (below_step (zw3_ HB GE296 GE297 GE298) hb); (try clear hb); have hnb17 := NB297_298.out; have hnc17 := NB298_297.out; have hcz18_0 := zx_ (v := .slice A1_0 l1_0.length c1_0) BK297 0; have hcz18_1 := zx_ (v := .slice A1_1 l1_1.length c1_1) BK297 1; have hfz18_0 := blk_frozen BK297.out 0; have hfz18_1 := blk_frozen BK297.out 1) | (go_at_call 32; (with_reducible refine (carouselref5_Is.calls k _ _ l1_0 _ _ l1_1 true _ ?side1 ?side2 ?side3 ?side4 A10.out).mono ?_); (case side1 => exact zk_ (Kd.C_below HR1_0.out HB.out)); (case side2 => exact HC1_0.out); (case side3 => exact zk_ (Kd.C_below HR1_1.out HB.out)); (case side4 => exact HC1_1.out); rintro e w19 ⟨rfl, hb⟩; replace BK296 := Aside0.mk (zl_ BK296 hb); replace BK297 := Aside0.mk (zl_ BK297 hb); replace BK298 := Aside0.mk (zl_ BK298 hb); replace HB := Aside0.mk (below_step (zw3_ HB GE296 GE297 GE298) hb); (try clear hb)))
     go_meet
     case rel => exact ⟨_, (true), (by first | rfl | (simp; done) | (simp [*]; done)), H', ⟨by first | omega | exact Nat.le_refl _⟩, ⟨zb_ BK296⟩, ⟨zb_ BK297⟩, ⟨zb_ BK298⟩, ⟨zw3_ HB GE296 GE297 GE298⟩⟩
    ·rw [if_neg c12] at H
     have c12b0 : decide (a2 < 1) = false := decide_eq_false c12
     clear c12
     (first | rw [c12b0] | (simp only [i64_w, i32_w]; rw [c12b0]) | skip)
     have H' := Aside0.mk H
     clear H
     have hnb20 := NB296_297.out
     have hnc20 := NB297_296.out
     have hnb21 := NB296_298.out
     have hnc21 := NB298_296.out
     have hcz22_0 := zx_ (v := .slice A0_0 l0_0.length c0_0) BK296 0
     have hcz22_1 := zx_ (v := .slice A0_1 l0_1.length c0_1) BK296 1
     have hfz22_0 := blk_frozen BK296.out 0
     have hfz22_1 := blk_frozen BK296.out 1
     go_wp2_with (first | ((with_reducible refine gate_callee (f := 32) rfl ?_); refine zg_ (some 20) Try.func32 #[.agg #[.slice A0_0 l0_0.length c0_0, .slice A0_1 l0_1.length c0_1]] (h := ?_); (with_reducible refine (carouselref5_Is.calls k _ _ l0_0 _ _ l0_1 true _ ?side1 ?side2 ?side3 ?side4 A8.out).mono ?_); (case side1 => exact zk_ (Kd.C_below HR0_0.out HB.out)); (case side2 => exact HC0_0.out); (case side3 => exact zk_ (Kd.C_below HR0_1.out HB.out)); (case side4 => exact HC0_1.out); rintro e w23 ⟨rfl, hb⟩; refine ⟨_, rfl, ?_⟩; replace BK296 := Aside0.mk (zl_ BK296 hb); replace BK297 := Aside0.mk (zl_ BK297 hb); replace BK298 := Aside0.mk (zl_ BK298 hb); replace HB := Aside0.mk (below_step (zw3_ HB GE296 GE297 GE298) hb); (try clear hb); have hnb24 := NB297_298.out; have hnc24 := NB298_297.out; have hcz25_0 := zx_ (v := .slice A1_0 l1_0.length c1_0) BK297 0; have hcz25_1 := zx_ (v := .slice A1_1 l1_1.length c1_1) BK297 1; have hfz25_0 := blk_frozen BK297.out 0; have hfz25_1 := blk_frozen BK297.out 1) | (go_at_call 32; (with_reducible refine (carouselref5_Is.calls k _ _ l1_0 _ _ l1_1 true _ ?side1 ?side2 ?side3 ?side4 A10.out).mono ?_); (case side1 => exact zk_ (Kd.C_below HR1_0.out HB.out)); (case side2 => exact HC1_0.out); (case side3 => exact zk_ (Kd.C_below HR1_1.out HB.out)); (case side4 => exact HC1_1.out); rintro e w26 ⟨rfl, hb⟩; replace BK296 := Aside0.mk (zl_ BK296 hb); replace BK297 := Aside0.mk (zl_ BK297 hb); replace BK298 := Aside0.mk (zl_ BK298 hb); replace HB := Aside0.mk (below_step (zw3_ HB GE296 GE297 GE298) hb); (try clear hb)))
     go_meet
     case rel => exact ⟨_, (decide (a2 > 64)), (by first | rfl | (simp; done) | (simp [*]; done)), H', ⟨by first | omega | exact Nat.le_refl _⟩, ⟨zb_ BK296⟩, ⟨zb_ BK297⟩, ⟨zb_ BK298⟩, ⟨zw3_ HB GE296 GE297 GE298⟩⟩
   ·replace c11 := Bool.eq_false_iff.mpr c11
    subst c11
    have H1 : (carouselref5_Row.j0 k a2 true l0_0 l0_1 l1_0 l1_1) = some (r1, r2, r3) := by rw [if_neg (show ¬ (false = true) by decide)] at H; exact H
    clear H
    have H := H1
    clear H1
    have H' := Aside0.mk H
    clear H
    have hnb27 := NB296_297.out
    have hnc27 := NB297_296.out
    have hnb28 := NB296_298.out
    have hnc28 := NB298_296.out
    have hcz29_0 := zx_ (v := .slice A0_0 l0_0.length c0_0) BK296 0
    have hcz29_1 := zx_ (v := .slice A0_1 l0_1.length c0_1) BK296 1
    have hfz29_0 := blk_frozen BK296.out 0
    have hfz29_1 := blk_frozen BK296.out 1
    go_wp2_with (first | ((with_reducible refine gate_callee (f := 32) rfl ?_); refine zg_ (some 20) Try.func32 #[.agg #[.slice A0_0 l0_0.length c0_0, .slice A0_1 l0_1.length c0_1]] (h := ?_); (with_reducible refine (carouselref5_Is.calls k _ _ l0_0 _ _ l0_1 true _ ?side1 ?side2 ?side3 ?side4 A8.out).mono ?_); (case side1 => exact zk_ (Kd.C_below HR0_0.out HB.out)); (case side2 => exact HC0_0.out); (case side3 => exact zk_ (Kd.C_below HR0_1.out HB.out)); (case side4 => exact HC0_1.out); rintro e w30 ⟨rfl, hb⟩; refine ⟨_, rfl, ?_⟩; replace BK296 := Aside0.mk (zl_ BK296 hb); replace BK297 := Aside0.mk (zl_ BK297 hb); replace BK298 := Aside0.mk (zl_ BK298 hb); replace HB := Aside0.mk (below_step (zw3_ HB GE296 GE297 GE298) hb); (try clear hb); have hnb31 := NB297_298.out; have hnc31 := NB298_297.out; have hcz32_0 := zx_ (v := .slice A1_0 l1_0.length c1_0) BK297 0; have hcz32_1 := zx_ (v := .slice A1_1 l1_1.length c1_1) BK297 1; have hfz32_0 := blk_frozen BK297.out 0; have hfz32_1 := blk_frozen BK297.out 1) | (go_at_call 32; (with_reducible refine (carouselref5_Is.calls k _ _ l1_0 _ _ l1_1 false _ ?side1 ?side2 ?side3 ?side4 A10.out).mono ?_); (case side1 => exact zk_ (Kd.C_below HR1_0.out HB.out)); (case side2 => exact HC1_0.out); (case side3 => exact zk_ (Kd.C_below HR1_1.out HB.out)); (case side4 => exact HC1_1.out); rintro e w33 ⟨rfl, hb⟩; replace BK296 := Aside0.mk (zl_ BK296 hb); replace BK297 := Aside0.mk (zl_ BK297 hb); replace BK298 := Aside0.mk (zl_ BK298 hb); replace HB := Aside0.mk (below_step (zw3_ HB GE296 GE297 GE298) hb); (try clear hb)))
    go_meet
    case rel => exact ⟨_, (true), (by first | rfl | (simp; done) | (simp [*]; done)), H', ⟨by first | omega | exact Nat.le_refl _⟩, ⟨zb_ BK296⟩, ⟨zb_ BK297⟩, ⟨zb_ BK298⟩, ⟨zw3_ HB GE296 GE297 GE298⟩⟩
  ·replace c9 := Bool.eq_false_iff.mpr c9
   subst c9
   have H1 : (carouselref5_Row.j0 k a2 true l0_0 l0_1 l1_0 l1_1) = some (r1, r2, r3) := by rw [if_neg (show ¬ (false = true) by decide)] at H; exact H
   clear H
   have H := H1
   clear H1
   have H' := Aside0.mk H
   clear H
   have hnb34 := NB296_297.out
   have hnc34 := NB297_296.out
   have hnb35 := NB296_298.out
   have hnc35 := NB298_296.out
   have hcz36_0 := zx_ (v := .slice A0_0 l0_0.length c0_0) BK296 0
   have hcz36_1 := zx_ (v := .slice A0_1 l0_1.length c0_1) BK296 1
   have hfz36_0 := blk_frozen BK296.out 0
   have hfz36_1 := blk_frozen BK296.out 1
   go_wp2_with (first | ((with_reducible refine gate_callee (f := 32) rfl ?_); refine zg_ (some 20) Try.func32 #[.agg #[.slice A0_0 l0_0.length c0_0, .slice A0_1 l0_1.length c0_1]] (h := ?_); (with_reducible refine (carouselref5_Is.calls k _ _ l0_0 _ _ l0_1 false _ ?side1 ?side2 ?side3 ?side4 A8.out).mono ?_); (case side1 => exact zk_ (Kd.C_below HR0_0.out HB.out)); (case side2 => exact HC0_0.out); (case side3 => exact zk_ (Kd.C_below HR0_1.out HB.out)); (case side4 => exact HC0_1.out); rintro e w37 ⟨rfl, hb⟩; refine ⟨_, rfl, ?_⟩; replace BK296 := Aside0.mk (zl_ BK296 hb); replace BK297 := Aside0.mk (zl_ BK297 hb); replace BK298 := Aside0.mk (zl_ BK298 hb); replace HB := Aside0.mk (below_step (zw3_ HB GE296 GE297 GE298) hb); (try clear hb)))
   go_meet
   case rel => exact ⟨_, (true), (by first | rfl | (simp; done) | (simp [*]; done)), H', ⟨by first | omega | exact Nat.le_refl _⟩, ⟨zb_ BK296⟩, ⟨zb_ BK297⟩, ⟨zb_ BK298⟩, ⟨zw3_ HB GE296 GE297 GE298⟩⟩
 case rest =>
  clear HC4
  try clear c1
  try clear c2
  try clear p2
  try clear c3
  try clear c9
  try clear c11
  try clear c12
  try clear c12b0
  try clear c13
  try clear c14
  try clear c17
  try clear c20
  try clear c21
  try clear c24
  try clear c27
  try clear c28
  try clear c31
  try clear c32
  try clear c34
  try clear c35
  try clear hcz15_0
  try clear hcz15_1
  try clear hcz18_0
  try clear hcz18_1
  try clear hcz22_0
  try clear hcz22_1
  try clear hcz25_0
  try clear hcz25_1
  try clear hcz29_0
  try clear hcz29_1
  try clear hcz32_0
  try clear hcz32_1
  try clear hcz36_0
  try clear hcz36_1
  try clear hfz15_0
  try clear hfz15_1
  try clear hfz18_0
  try clear hfz18_1
  try clear hfz22_0
  try clear hfz22_1
  try clear hfz25_0
  try clear hfz25_1
  try clear hfz29_0
  try clear hfz29_1
  try clear hfz32_0
  try clear hfz32_1
  try clear hfz36_0
  try clear hfz36_1
  obtain ⟨kq, x34_3, rfl, HA, HJ3, BK296, BK297, BK298, HB⟩ := hcut
  cases kq with
  | zero => exact absurd HA.out (by simp [carouselref5_Row.j0])
  | succ kj3 =>
   have H := HA.out
   clear HA
   simp only [carouselref5_Row.j0] at H
   by_cases c38 : x34_3 = true
   ·subst c38
    have H1 : (some (([] : List Int), ([] : List Int), 1)) = some (r1, r2, r3) := by rw [if_pos rfl] at H; exact H
    clear H
    have H := H1
    clear H1
    simp only [Option.some.injEq, Prod.mk.injEq] at H
    obtain ⟨rfl, rfl, rfl⟩ := H
    have hnb39 := NB298_296.out
    have hnc39 := NB296_298.out
    have hnb40 := NB298_297.out
    have hnc40 := NB297_298.out
    have hcz41_0 := zx_ (v := .slice none 0 0) BK298 0
    have hcz41_1 := zx_ (v := .slice none 0 0) BK298 1
    have hfz41_0 := blk_frozen BK298.out 0
    have hfz41_1 := blk_frozen BK298.out 1
    go_wp2
    refine bodyPost_ret (results_ct rfl _ _ gb298 25 #[.slice none 0 0, .slice none 0 0] (0, 0) _ rfl (by (with_reducible repeat (first | refine blk_drewN ?_ _ | refine blk_drew ?_ | refine blk_alloc ?_ _)); refine blk_put (cs := #[.slice none 0 0, .slice none 0 0]) ?_ 1 _ rfl; (with_reducible repeat (first | refine blk_drewN ?_ _ | refine blk_drew ?_ | refine blk_alloc ?_ _)); refine blk_put (cs := #[.slice none 0 0, .slice none 0 0]) ?_ 0 _ rfl; (with_reducible repeat (first | refine blk_drewN ?_ _ | refine blk_drew ?_ | refine blk_alloc ?_ _)); exact BK298.out) Try.underlying25 rfl (by kernel_rfl)) rfl ?_
    exact ⟨_, _, by first | rfl | (simp [errW_none, errW_some] <;> rfl) | (simp [*, errW_none, errW_some] <;> rfl), by first | exact Kd.R_nil _ _ _ _ _ | exact Kd.N_nil _ _ _ _ _ | exact Kd.V_nil _ _ _ _ _ | exact Kd.Q_nil _ _ _ _ _ | exact Kd.S_nil _ _ _ _ _, by first | exact Kd.R_nil _ _ _ _ _ | exact Kd.N_nil _ _ _ _ _ | exact Kd.V_nil _ _ _ _ _ | exact Kd.Q_nil _ _ _ _ _ | exact Kd.S_nil _ _ _ _ _, zw3_ HB GE296 GE297 GE298⟩
   ·replace c38 := Bool.eq_false_iff.mpr c38
    subst c38
    have H1 := H
    rw [if_neg (show ¬ (false = true) by decide)] at H1
    clear H
    have H := H1
    clear H1
    have HC42 := Aside0.mk H
    clear H
    go_upto_region 3 with (fail)
    go_cut [67] (fun v67 wc => ∃ (kq : Nat) (x67_41 : Bool), v67 = .bool x67_41 ∧ Aside0 (carouselref5_Row.j1 kq a2 x67_41 l0_0 l0_1 l1_0 l1_1 = some (r1, r2, r3)) ∧ Aside0 (kq ≤ kj3) ∧ Aside0 (wc.heap[gb296]? = some (.cells #[(.slice A0_0 l0_0.length c0_0), (.slice A0_1 l0_1.length c0_1)] 25 (0, 0))) ∧ Aside0 (wc.heap[gb297]? = some (.cells #[(.slice A1_0 l1_0.length c1_0), (.slice A1_1 l1_1.length c1_1)] 25 (0, 0))) ∧ Aside0 (wc.heap[gb298]? = some (.cells #[(.slice none 0 0), (.slice none 0 0)] 25 (0, 0))) ∧ Aside0 (Below w.heap.size w wc))
    case first =>
     have H := HC42.out
     clear HC42
     by_cases c43 : (l0_0.length : Int) = 2
     ·rw [if_pos c43] at H
      have c43b0 : ((l0_0.length : Int) == 2) = true := beq_iff_eq.mpr c43
      have c43b1 : ((l0_0.length : Int) != 2) = false := bne_eq_false_iff_eq.mpr c43
      clear c43
      (first | rw [c43b0] | (simp only [i64_w, i32_w]; rw [c43b0]) | skip)
      by_cases c44 : (l1_0.length : Int) = 3
      ·rw [if_pos c44] at H
       have c44b0 : ((l1_0.length : Int) == 3) = true := beq_iff_eq.mpr c44
       have c44b1 : ((l1_0.length : Int) != 3) = false := bne_eq_false_iff_eq.mpr c44
       clear c44
       by_cases c45 : 0 < (l0_0.length : Int)
       ·rw [if_pos c45] at H
        have c45b0 : decide (0 < (l0_0.length : Int)) = true := decide_eq_true c45
        have c45b1 : decide (0 < l0_0.length) = true := decide_eq_true (by omega)
        clear c45
        by_cases c46 : 1 < (l1_0.length : Int)
        ·rw [if_pos c46] at H
         have c46b0 : decide (1 < (l1_0.length : Int)) = true := decide_eq_true c46
         have c46b1 : decide (1 < l1_0.length) = true := decide_eq_true (by omega)
         clear c46
         by_cases c47 : (rd l0_0 0) = (rd l1_0 1)
         ·rw [if_pos c47] at H
          have c47b0 : ((rd l0_0 0) == (rd l1_0 1)) = true := beq_iff_eq.mpr c47
          have c47b1 : ((rd l0_0 0) != (rd l1_0 1)) = false := bne_eq_false_iff_eq.mpr c47
          clear c47
          by_cases c48 : 2 < (l1_0.length : Int)
          ·rw [if_pos c48] at H
           have c48b0 : decide (2 < (l1_0.length : Int)) = true := decide_eq_true c48
           have c48b1 : decide (2 < l1_0.length) = true := decide_eq_true (by omega)
           clear c48
           by_cases c49 : 1 < (l0_0.length : Int)
           ·rw [if_pos c49] at H
            have c49b0 : decide (1 < (l0_0.length : Int)) = true := decide_eq_true c49
            have c49b1 : decide (1 < l0_0.length) = true := decide_eq_true (by omega)
            clear c49
            have H' := Aside0.mk H
            clear H
            try go_wp2
            replace BK296 := Aside0.mk (blk_drew BK296.out)
            replace BK297 := Aside0.mk (blk_drew BK297.out)
            replace BK298 := Aside0.mk (blk_drew BK298.out)
            replace HB := Aside0.mk (below_drew1 HB.out)
            have p301 : 0 ≤ (0 : Int) := (by omega)
            have q301 : 0 < (l0_0.length : Int) := of_decide_eq_true (by first | (with_reducible assumption) | assumption)
            obtain ⟨ad301, e301, hx301_0⟩ := Kd.at_int HR0_0.out 0 p301 q301
            have hw301_0 := hx301_0
            (try rw [show ((0 : Int)).toNat = 0 from rfl] at hw301_0)
            (try rw [show 0 * 1 = 0 from rfl] at hw301_0)
            (try rw [Addr.add_zero'] at hw301_0)
            cases e301
            have qi301 : (0 < l0_0.length) = True := eq_true (by omega)
            (try rw [show ((0 : Int)).toNat = 0 from rfl] at hx301_0)
            (try rw [Addr.add_zero'] at hx301_0)
            replace hx301_0 := (HB.out.cell (World.block_lt_of_cell? w _ hx301_0)).trans hx301_0
            replace p301 := eq_true p301
            replace q301 := eq_true q301
            have p302 : 0 ≤ (1 : Int) := (by omega)
            have q302 : 1 < (l1_0.length : Int) := of_decide_eq_true (by first | (with_reducible assumption) | assumption)
            obtain ⟨ad302, e302, hx302_0⟩ := Kd.at_int HR1_0.out 1 p302 q302
            have hw302_0 := hx302_0
            (try rw [show ((1 : Int)).toNat = 1 from rfl] at hw302_0)
            (try rw [show 1 * 1 = 1 from rfl] at hw302_0)
            (try simp only [Nat.reduceMul, Nat.reduceEqDiff, Go.Addr.add, ↓reduceIte] at hw302_0)
            cases e302
            (try simp only [show (1 : Int).toNat = 1 from rfl, Nat.reduceMul, Nat.reduceEqDiff, Go.Addr.add, ↓reduceIte] at hx302_0)
            have qi302 : (1 < l1_0.length) = True := eq_true (by omega)
            (try rw [show ((1 : Int)).toNat = 1 from rfl] at hx302_0)
            replace hx302_0 := (HB.out.cell (World.block_lt_of_cell? w _ hx302_0)).trans hx302_0
            replace p302 := eq_true p302
            replace q302 := eq_true q302
            have p303 : 0 ≤ (2 : Int) := (by omega)
            have q303 : 2 < (l1_0.length : Int) := of_decide_eq_true (by first | (with_reducible assumption) | assumption)
            obtain ⟨ad303, e303, hx303_0⟩ := Kd.at_int HR1_0.out 2 p303 q303
            have hw303_0 := hx303_0
            (try rw [show ((2 : Int)).toNat = 2 from rfl] at hw303_0)
            (try rw [show 2 * 1 = 2 from rfl] at hw303_0)
            (try simp only [Nat.reduceMul, Nat.reduceEqDiff, Go.Addr.add, ↓reduceIte] at hw303_0)
            obtain rfl : ad302 = ad303 := (by injection e303)
            (try simp only [show (2 : Int).toNat = 2 from rfl, Nat.reduceMul, Nat.reduceEqDiff, Go.Addr.add, ↓reduceIte] at hx303_0)
            have qi303 : (2 < l1_0.length) = True := eq_true (by omega)
            (try rw [show ((2 : Int)).toNat = 2 from rfl] at hx303_0)
            replace hx303_0 := (HB.out.cell (World.block_lt_of_cell? w _ hx303_0)).trans hx303_0
            replace p303 := eq_true p303
            replace q303 := eq_true q303
            have p304 : 0 ≤ (1 : Int) := (by omega)
            have q304 : 1 < (l0_0.length : Int) := of_decide_eq_true (by first | (with_reducible assumption) | assumption)
            obtain ⟨ad304, e304, hx304_0⟩ := Kd.at_int HR0_0.out 1 p304 q304
            have hw304_0 := hx304_0
            (try rw [show ((1 : Int)).toNat = 1 from rfl] at hw304_0)
            (try rw [show 1 * 1 = 1 from rfl] at hw304_0)
            (try simp only [Nat.reduceMul, Nat.reduceEqDiff, Go.Addr.add, ↓reduceIte] at hw304_0)
            obtain rfl : ad301 = ad304 := (by injection e304)
            (try simp only [show (1 : Int).toNat = 1 from rfl, Nat.reduceMul, Nat.reduceEqDiff, Go.Addr.add, ↓reduceIte] at hx304_0)
            have qi304 : (1 < l0_0.length) = True := eq_true (by omega)
            (try rw [show ((1 : Int)).toNat = 1 from rfl] at hx304_0)
            replace hx304_0 := (HB.out.cell (World.block_lt_of_cell? w _ hx304_0)).trans hx304_0
            replace p304 := eq_true p304
            replace q304 := eq_true q304
            refine start_ (n := 32) (S := fun w' => w'.cell? ⟨gb296, 0, none⟩ = some (.slice (some ad301) l0_0.length c0_0) ∧ w'.cell? ⟨gb296, 1, none⟩ = some (.slice A0_1 l0_1.length c0_1) ∧ w'.cell? ⟨gb297, 0, none⟩ = some (.slice (some ad302) l1_0.length c1_0) ∧ w'.cell? ⟨gb297, 1, none⟩ = some (.slice A1_1 l1_1.length c1_1) ∧ w'.cell? ad301 = some (.int .i64 (rd l0_0 0)) ∧ w'.cell? ⟨ad302.block, ad302.off + 1, none⟩ = some (.int .i64 (rd l1_0 1)) ∧ w'.cell? ⟨ad302.block, ad302.off + 2, none⟩ = some (.int .i64 (rd l1_0 2)) ∧ w'.cell? ⟨ad301.block, ad301.off + 1, none⟩ = some (.int .i64 (rd l0_0 1))) (ds := []) #[false, false, false, false, false, false, false, false, false, false, false, false, false, false, false, false, false, false, false, false, false, false, false, false, false, false, false, false, false, false, false, false] (by kernel_rfl) rfl rfl ⟨(blk_cell BK296.out 0).trans rfl, (blk_cell BK296.out 1).trans rfl, (blk_cell BK297.out 0).trans rfl, (blk_cell BK297.out 1).trans rfl, ((HB.out.cell (World.block_lt_of_cell? w _ hw301_0)).trans hw301_0), ((HB.out.cell (World.block_lt_of_cell? w _ hw302_0)).trans hw302_0), ((HB.out.cell (World.block_lt_of_cell? w _ hw303_0)).trans hw303_0), ((HB.out.cell (World.block_lt_of_cell? w _ hw304_0)).trans hw304_0)⟩ (fun hHeld => ?_); refine with_tabW carouselref5_Row.tab3 carouselref5_Row.bits3 (fun HT_ HW_ => ?_)
            generalize wc.drew = w50 at BK296 BK297 BK298 HB hx301_0 hx302_0 hx303_0 hx304_0 hHeld ⊢
            refine zp_ 0 (some 36) (h := ?_)
            refine zt_ 1 (some 37) (hr := by rintro w' ⟨s0, s1, s2, s3, s4, s5, s6, s7⟩; go_simp; with_reducible rfl) (h := ?_)
            refine zp_ 2 (some 38) (h := ?_)
            refine zp_ 3 (some 39) (h := ?_)
            refine zp_ 4 (some 40) (h := ?_)
            refine zp_ 5 (some 41) (h := ?_)
            refine zt_ 6 (some 42) (hr := by rintro w' ⟨s0, s1, s2, s3, s4, s5, s6, s7⟩; go_simp; with_reducible rfl) (h := ?_)
            refine zp_ 7 (some 43) (h := ?_)
            refine zp_ 8 (some 44) (h := ?_)
            refine zp_ 9 (some 45) (h := ?_)
            refine zp_ 10 (some 46) (h := ?_)
            refine zp_ 11 (some 47) (h := ?_)
            refine zp_ 15 (some 51) (h := ?_)
            refine zt_ 12 (some 48) (hr := by rintro w' ⟨s0, s1, s2, s3, s4, s5, s6, s7⟩; go_simp; with_reducible rfl) (h := ?_)
            refine zp_ 13 (some 49) (h := ?_)
            refine zt_ 14 (some 50) (hr := by rintro w' ⟨s0, s1, s2, s3, s4, s5, s6, s7⟩; go_simp; with_reducible rfl) (h := ?_)
            refine zt_ 16 (some 52) (hr := by rintro w' ⟨s0, s1, s2, s3, s4, s5, s6, s7⟩; go_simp; with_reducible rfl) (h := ?_)
            refine zp_ 17 (some 53) (h := ?_)
            refine zt_ 18 (some 54) (hr := by rintro w' ⟨s0, s1, s2, s3, s4, s5, s6, s7⟩; go_simp; with_reducible rfl) (h := ?_)
            refine zp_ 19 (some 55) (h := ?_)
            refine zp_ 20 (some 56) (h := ?_)
            refine zp_ 21 (some 57) (h := ?_)
            refine zp_ 22 (some 58) (h := ?_)
            refine zp_ 26 (some 62) (h := ?_)
            refine zt_ 23 (some 59) (hr := by rintro w' ⟨s0, s1, s2, s3, s4, s5, s6, s7⟩; go_simp; with_reducible rfl) (h := ?_)
            refine zp_ 24 (some 60) (h := ?_)
            refine zt_ 25 (some 61) (hr := by rintro w' ⟨s0, s1, s2, s3, s4, s5, s6, s7⟩; go_simp; with_reducible rfl) (h := ?_)
            refine zt_ 27 (some 63) (hr := by rintro w' ⟨s0, s1, s2, s3, s4, s5, s6, s7⟩; go_simp; with_reducible rfl) (h := ?_)
            refine zp_ 28 (some 64) (h := ?_)
            refine zt_ 29 (some 65) (hr := by rintro w' ⟨s0, s1, s2, s3, s4, s5, s6, s7⟩; go_simp; with_reducible rfl) (h := ?_)
            refine zp_ 30 (some 66) (h := ?_)
            refine zp_ 31 (some 67) (h := ?_)
            refine done_ (done_of HT_.out (by kernel_rfl)) ?_
            try go_wp2
            go_meet
            case rel => exact ⟨_, (decide ((rd l1_0 2) > (rd l0_0 1))), (by first | rfl | (simp; done) | (simp [*]; done)), H', ⟨by have := HJ3.out; first | omega | exact Nat.le_refl _⟩, ⟨zb_ BK296⟩, ⟨zb_ BK297⟩, ⟨zb_ BK298⟩, ⟨zw3_ HB GE296 GE297 GE298⟩⟩
           ·rw [if_neg c49] at H
            exact absurd H (by simp)
          ·rw [if_neg c48] at H
           exact absurd H (by simp)
         ·rw [if_neg c47] at H
          have c47b0 : ((rd l0_0 0) == (rd l1_0 1)) = false := beq_eq_false_iff_ne.mpr c47
          have c47b1 : ((rd l0_0 0) != (rd l1_0 1)) = true := bne_iff_ne.mpr c47
          have H' := Aside0.mk H
          clear H
          try go_wp2
          replace BK296 := Aside0.mk (blk_drew BK296.out)
          replace BK297 := Aside0.mk (blk_drew BK297.out)
          replace BK298 := Aside0.mk (blk_drew BK298.out)
          replace HB := Aside0.mk (below_drew1 HB.out)
          have p301 : 0 ≤ (0 : Int) := (by omega)
          have q301 : 0 < (l0_0.length : Int) := of_decide_eq_true (by first | (with_reducible assumption) | assumption)
          obtain ⟨ad301, e301, hx301_0⟩ := Kd.at_int HR0_0.out 0 p301 q301
          have hw301_0 := hx301_0
          (try rw [show ((0 : Int)).toNat = 0 from rfl] at hw301_0)
          (try rw [show 0 * 1 = 0 from rfl] at hw301_0)
          (try rw [Addr.add_zero'] at hw301_0)
          cases e301
          have qi301 : (0 < l0_0.length) = True := eq_true (by omega)
          (try rw [show ((0 : Int)).toNat = 0 from rfl] at hx301_0)
          (try rw [Addr.add_zero'] at hx301_0)
          replace hx301_0 := (HB.out.cell (World.block_lt_of_cell? w _ hx301_0)).trans hx301_0
          replace p301 := eq_true p301
          replace q301 := eq_true q301
          have p302 : 0 ≤ (1 : Int) := (by omega)
          have q302 : 1 < (l1_0.length : Int) := of_decide_eq_true (by first | (with_reducible assumption) | assumption)
          obtain ⟨ad302, e302, hx302_0⟩ := Kd.at_int HR1_0.out 1 p302 q302
          have hw302_0 := hx302_0
          (try rw [show ((1 : Int)).toNat = 1 from rfl] at hw302_0)
          (try rw [show 1 * 1 = 1 from rfl] at hw302_0)
          (try simp only [Nat.reduceMul, Nat.reduceEqDiff, Go.Addr.add, ↓reduceIte] at hw302_0)
          cases e302
          (try simp only [show (1 : Int).toNat = 1 from rfl, Nat.reduceMul, Nat.reduceEqDiff, Go.Addr.add, ↓reduceIte] at hx302_0)
          have qi302 : (1 < l1_0.length) = True := eq_true (by omega)
          (try rw [show ((1 : Int)).toNat = 1 from rfl] at hx302_0)
          replace hx302_0 := (HB.out.cell (World.block_lt_of_cell? w _ hx302_0)).trans hx302_0
          replace p302 := eq_true p302
          replace q302 := eq_true q302
          refine start_ (n := 32) (S := fun w' => w'.cell? ⟨gb296, 0, none⟩ = some (.slice (some ad301) l0_0.length c0_0) ∧ w'.cell? ⟨gb296, 1, none⟩ = some (.slice A0_1 l0_1.length c0_1) ∧ w'.cell? ⟨gb297, 0, none⟩ = some (.slice (some ad302) l1_0.length c1_0) ∧ w'.cell? ⟨gb297, 1, none⟩ = some (.slice A1_1 l1_1.length c1_1) ∧ w'.cell? ad301 = some (.int .i64 (rd l0_0 0)) ∧ w'.cell? ⟨ad302.block, ad302.off + 1, none⟩ = some (.int .i64 (rd l1_0 1))) (ds := []) #[false, false, false, false, false, false, false, false, false, false, false, false, false, false, false, false, false, false, false, false, false, false, false, false, false, false, false, false, false, false, false, false] (by kernel_rfl) rfl rfl ⟨(blk_cell BK296.out 0).trans rfl, (blk_cell BK296.out 1).trans rfl, (blk_cell BK297.out 0).trans rfl, (blk_cell BK297.out 1).trans rfl, ((HB.out.cell (World.block_lt_of_cell? w _ hw301_0)).trans hw301_0), ((HB.out.cell (World.block_lt_of_cell? w _ hw302_0)).trans hw302_0)⟩ (fun hHeld => ?_); refine with_tabW carouselref5_Row.tab3 carouselref5_Row.bits3 (fun HT_ HW_ => ?_)
          generalize wc.drew = w51 at BK296 BK297 BK298 HB hx301_0 hx302_0 hHeld ⊢
          refine zp_ 0 (some 36) (h := ?_)
          refine zt_ 1 (some 37) (hr := by rintro w' ⟨s0, s1, s2, s3, s4, s5⟩; go_simp; with_reducible rfl) (h := ?_)
          refine zp_ 2 (some 38) (h := ?_)
          refine zp_ 3 (some 39) (h := ?_)
          refine zp_ 4 (some 40) (h := ?_)
          refine zp_ 5 (some 41) (h := ?_)
          refine zt_ 6 (some 42) (hr := by rintro w' ⟨s0, s1, s2, s3, s4, s5⟩; go_simp; with_reducible rfl) (h := ?_)
          refine zp_ 7 (some 43) (h := ?_)
          refine zp_ 8 (some 44) (h := ?_)
          refine zp_ 9 (some 45) (h := ?_)
          refine zp_ 10 (some 46) (h := ?_)
          refine zp_ 11 (some 47) (h := ?_)
          refine zp_ 15 (some 51) (h := ?_)
          refine zt_ 12 (some 48) (hr := by rintro w' ⟨s0, s1, s2, s3, s4, s5⟩; go_simp; with_reducible rfl) (h := ?_)
          refine zp_ 13 (some 49) (h := ?_)
          refine zt_ 14 (some 50) (hr := by rintro w' ⟨s0, s1, s2, s3, s4, s5⟩; go_simp; with_reducible rfl) (h := ?_)
          refine zt_ 16 (some 52) (hr := by rintro w' ⟨s0, s1, s2, s3, s4, s5⟩; go_simp; with_reducible rfl) (h := ?_)
          refine zp_ 17 (some 53) (h := ?_)
          refine zt_ 18 (some 54) (hr := by rintro w' ⟨s0, s1, s2, s3, s4, s5⟩; go_simp; with_reducible rfl) (h := ?_)
          refine zp_ 19 (some 55) (h := ?_)
          refine zp_ 20 (some 56) (h := ?_)
          refine zp_ 21 (some 57) (h := ?_)
          refine zu_ 22 (some 58) (h := ?_)
          refine zu_ 23 (some 59) (h := ?_)
          refine zu_ 24 (some 60) (h := ?_)
          refine zu_ 25 (some 61) (h := ?_)
          refine zu_ 26 (some 62) (h := ?_)
          refine zu_ 27 (some 63) (h := ?_)
          refine zu_ 28 (some 64) (h := ?_)
          refine zu_ 29 (some 65) (h := ?_)
          refine zu_ 30 (some 66) (h := ?_)
          refine zp_ 31 (some 67) (h := ?_)
          refine done_ (done_of HT_.out (by kernel_rfl)) ?_
          try go_wp2
          go_meet
          case rel => exact ⟨_, (true), (by first | rfl | (simp; done) | (simp [*]; done)), H', ⟨by have := HJ3.out; first | omega | exact Nat.le_refl _⟩, ⟨zb_ BK296⟩, ⟨zb_ BK297⟩, ⟨zb_ BK298⟩, ⟨zw3_ HB GE296 GE297 GE298⟩⟩
        ·rw [if_neg c46] at H
         exact absurd H (by simp)
       ·rw [if_neg c45] at H
        exact absurd H (by simp)
      ·rw [if_neg c44] at H
       have c44b0 : ((l1_0.length : Int) == 3) = false := beq_eq_false_iff_ne.mpr c44
       have c44b1 : ((l1_0.length : Int) != 3) = true := bne_iff_ne.mpr c44
       have H' := Aside0.mk H
       clear H
       try go_wp2
       replace BK296 := Aside0.mk (blk_drew BK296.out)
       replace BK297 := Aside0.mk (blk_drew BK297.out)
       replace BK298 := Aside0.mk (blk_drew BK298.out)
       replace HB := Aside0.mk (below_drew1 HB.out)
       refine start_ (n := 32) (S := fun w' => w'.cell? ⟨gb296, 0, none⟩ = some (.slice A0_0 l0_0.length c0_0) ∧ w'.cell? ⟨gb296, 1, none⟩ = some (.slice A0_1 l0_1.length c0_1) ∧ w'.cell? ⟨gb297, 0, none⟩ = some (.slice A1_0 l1_0.length c1_0) ∧ w'.cell? ⟨gb297, 1, none⟩ = some (.slice A1_1 l1_1.length c1_1)) (ds := []) #[false, false, false, false, false, false, false, false, false, false, false, false, false, false, false, false, false, false, false, false, false, false, false, false, false, false, false, false, false, false, false, false] (by kernel_rfl) rfl rfl ⟨(blk_cell BK296.out 0).trans rfl, (blk_cell BK296.out 1).trans rfl, (blk_cell BK297.out 0).trans rfl, (blk_cell BK297.out 1).trans rfl⟩ (fun hHeld => ?_); refine with_tabW carouselref5_Row.tab3 carouselref5_Row.bits3 (fun HT_ HW_ => ?_)
       generalize wc.drew = w52 at BK296 BK297 BK298 HB hHeld ⊢
       refine zp_ 0 (some 36) (h := ?_)
       refine zt_ 1 (some 37) (hr := by rintro w' ⟨s0, s1, s2, s3⟩; go_simp; with_reducible rfl) (h := ?_)
       refine zp_ 2 (some 38) (h := ?_)
       refine zp_ 3 (some 39) (h := ?_)
       refine zp_ 4 (some 40) (h := ?_)
       refine zp_ 5 (some 41) (h := ?_)
       refine zt_ 6 (some 42) (hr := by rintro w' ⟨s0, s1, s2, s3⟩; go_simp; with_reducible rfl) (h := ?_)
       refine zp_ 7 (some 43) (h := ?_)
       refine zp_ 8 (some 44) (h := ?_)
       refine zp_ 9 (some 45) (h := ?_)
       refine zp_ 10 (some 46) (h := ?_)
       refine zu_ 11 (some 47) (h := ?_)
       refine zu_ 12 (some 48) (h := ?_)
       refine zu_ 13 (some 49) (h := ?_)
       refine zu_ 14 (some 50) (h := ?_)
       refine zu_ 15 (some 51) (h := ?_)
       refine zu_ 16 (some 52) (h := ?_)
       refine zu_ 17 (some 53) (h := ?_)
       refine zu_ 18 (some 54) (h := ?_)
       refine zu_ 19 (some 55) (h := ?_)
       refine zp_ 20 (some 56) (h := ?_)
       refine zp_ 21 (some 57) (h := ?_)
       refine zu_ 22 (some 58) (h := ?_)
       refine zu_ 23 (some 59) (h := ?_)
       refine zu_ 24 (some 60) (h := ?_)
       refine zu_ 25 (some 61) (h := ?_)
       refine zu_ 26 (some 62) (h := ?_)
       refine zu_ 27 (some 63) (h := ?_)
       refine zu_ 28 (some 64) (h := ?_)
       refine zu_ 29 (some 65) (h := ?_)
       refine zu_ 30 (some 66) (h := ?_)
       refine zp_ 31 (some 67) (h := ?_)
       refine done_ (done_of HT_.out (by kernel_rfl)) ?_
       try go_wp2
       go_meet
       case rel => exact ⟨_, (true), (by first | rfl | (simp; done) | (simp [*]; done)), H', ⟨by have := HJ3.out; first | omega | exact Nat.le_refl _⟩, ⟨zb_ BK296⟩, ⟨zb_ BK297⟩, ⟨zb_ BK298⟩, ⟨zw3_ HB GE296 GE297 GE298⟩⟩
     ·rw [if_neg c43] at H
      have c43b0 : ((l0_0.length : Int) == 2) = false := beq_eq_false_iff_ne.mpr c43
      have c43b1 : ((l0_0.length : Int) != 2) = true := bne_iff_ne.mpr c43
      (first | rw [c43b0] | (simp only [i64_w, i32_w]; rw [c43b0]) | skip)
      have H' := Aside0.mk H
      clear H
      try go_wp2
      replace BK296 := Aside0.mk (blk_drew BK296.out)
      replace BK297 := Aside0.mk (blk_drew BK297.out)
      replace BK298 := Aside0.mk (blk_drew BK298.out)
      replace HB := Aside0.mk (below_drew1 HB.out)
      refine start_ (n := 32) (S := fun w' => w'.cell? ⟨gb296, 0, none⟩ = some (.slice A0_0 l0_0.length c0_0) ∧ w'.cell? ⟨gb296, 1, none⟩ = some (.slice A0_1 l0_1.length c0_1)) (ds := []) #[false, false, false, false, false, false, false, false, false, false, false, false, false, false, false, false, false, false, false, false, false, false, false, false, false, false, false, false, false, false, false, false] (by kernel_rfl) rfl rfl ⟨(blk_cell BK296.out 0).trans rfl, (blk_cell BK296.out 1).trans rfl⟩ (fun hHeld => ?_); refine with_tabW carouselref5_Row.tab3 carouselref5_Row.bits3 (fun HT_ HW_ => ?_)
      generalize wc.drew = w53 at BK296 BK297 BK298 HB hHeld ⊢
      refine zp_ 0 (some 36) (h := ?_)
      refine zt_ 1 (some 37) (hr := by rintro w' ⟨s0, s1⟩; go_simp; with_reducible rfl) (h := ?_)
      refine zp_ 2 (some 38) (h := ?_)
      refine zp_ 3 (some 39) (h := ?_)
      refine zp_ 4 (some 40) (h := ?_)
      refine zu_ 5 (some 41) (h := ?_)
      refine zu_ 6 (some 42) (h := ?_)
      refine zu_ 7 (some 43) (h := ?_)
      refine zu_ 8 (some 44) (h := ?_)
      refine zp_ 9 (some 45) (h := ?_)
      refine zp_ 10 (some 46) (h := ?_)
      refine zu_ 11 (some 47) (h := ?_)
      refine zu_ 12 (some 48) (h := ?_)
      refine zu_ 13 (some 49) (h := ?_)
      refine zu_ 14 (some 50) (h := ?_)
      refine zu_ 15 (some 51) (h := ?_)
      refine zu_ 16 (some 52) (h := ?_)
      refine zu_ 17 (some 53) (h := ?_)
      refine zu_ 18 (some 54) (h := ?_)
      refine zu_ 19 (some 55) (h := ?_)
      refine zp_ 20 (some 56) (h := ?_)
      refine zp_ 21 (some 57) (h := ?_)
      refine zu_ 22 (some 58) (h := ?_)
      refine zu_ 23 (some 59) (h := ?_)
      refine zu_ 24 (some 60) (h := ?_)
      refine zu_ 25 (some 61) (h := ?_)
      refine zu_ 26 (some 62) (h := ?_)
      refine zu_ 27 (some 63) (h := ?_)
      refine zu_ 28 (some 64) (h := ?_)
      refine zu_ 29 (some 65) (h := ?_)
      refine zu_ 30 (some 66) (h := ?_)
      refine zp_ 31 (some 67) (h := ?_)
      refine done_ (done_of HT_.out (by kernel_rfl)) ?_
      try go_wp2
      go_meet
      case rel => exact ⟨_, (true), (by first | rfl | (simp; done) | (simp [*]; done)), H', ⟨by have := HJ3.out; first | omega | exact Nat.le_refl _⟩, ⟨zb_ BK296⟩, ⟨zb_ BK297⟩, ⟨zb_ BK298⟩, ⟨zw3_ HB GE296 GE297 GE298⟩⟩
    case rest =>
     clear HC42
     try clear c1
     try clear p2
     try clear c4
     try clear c43
     try clear c43b0
     try clear c43b1
     try clear c44
     try clear c44b0
     try clear c44b1
     try clear c45
     try clear c46
     obtain ⟨kq, x67_41, rfl, HA, HJ41, BK296, BK297, BK298, HB⟩ := hcut
     cases kq with
     | zero => exact absurd HA.out (by simp [carouselref5_Row.j1])
     | succ kj41 =>
      have H := HA.out
      clear HA
      simp only [carouselref5_Row.j1] at H
      by_cases c54 : x67_41 = true
      ·subst c54
       have H1 : (some (([] : List Int), ([] : List Int), 4)) = some (r1, r2, r3) := by rw [if_pos rfl] at H; exact H
       clear H
       have H := H1
       clear H1
       simp only [Option.some.injEq, Prod.mk.injEq] at H
       obtain ⟨rfl, rfl, rfl⟩ := H
       have hnb55 := NB298_296.out
       have hnc55 := NB296_298.out
       have hnb56 := NB298_297.out
       have hnc56 := NB297_298.out
       have hcz57_0 := zx_ (v := .slice none 0 0) BK298 0
       have hcz57_1 := zx_ (v := .slice none 0 0) BK298 1
       have hfz57_0 := blk_frozen BK298.out 0
       have hfz57_1 := blk_frozen BK298.out 1
       go_wp2
       refine bodyPost_ret (results_ct rfl _ _ gb298 25 #[.slice none 0 0, .slice none 0 0] (0, 0) _ rfl (by (with_reducible repeat (first | refine blk_drewN ?_ _ | refine blk_drew ?_ | refine blk_alloc ?_ _)); refine blk_put (cs := #[.slice none 0 0, .slice none 0 0]) ?_ 1 _ rfl; (with_reducible repeat (first | refine blk_drewN ?_ _ | refine blk_drew ?_ | refine blk_alloc ?_ _)); refine blk_put (cs := #[.slice none 0 0, .slice none 0 0]) ?_ 0 _ rfl; (with_reducible repeat (first | refine blk_drewN ?_ _ | refine blk_drew ?_ | refine blk_alloc ?_ _)); exact BK298.out) Try.underlying25 rfl (by kernel_rfl)) rfl ?_
       exact ⟨_, _, by first | rfl | (simp [errW_none, errW_some] <;> rfl) | (simp [*, errW_none, errW_some] <;> rfl), by first | exact Kd.R_nil _ _ _ _ _ | exact Kd.N_nil _ _ _ _ _ | exact Kd.V_nil _ _ _ _ _ | exact Kd.Q_nil _ _ _ _ _ | exact Kd.S_nil _ _ _ _ _, by first | exact Kd.R_nil _ _ _ _ _ | exact Kd.N_nil _ _ _ _ _ | exact Kd.V_nil _ _ _ _ _ | exact Kd.Q_nil _ _ _ _ _ | exact Kd.S_nil _ _ _ _ _, zw3_ HB GE296 GE297 GE298⟩
      ·replace c54 := Bool.eq_false_iff.mpr c54
       subst c54
       have H1 := H
       rw [if_neg (show ¬ (false = true) by decide)] at H1
       clear H
       have H := H1
       clear H1
       by_cases c58 : 0 < (l0_0.length : Int)
       ·rw [if_pos c58] at H
        have c58b0 : decide (0 < (l0_0.length : Int)) = true := decide_eq_true c58
        have c58b1 : decide (0 < l0_0.length) = true := decide_eq_true (by omega)
        clear c58
        by_cases c59 : 1 < (l0_0.length : Int)
        ·rw [if_pos c59] at H
         have c59b0 : decide (1 < (l0_0.length : Int)) = true := decide_eq_true c59
         have c59b1 : decide (1 < l0_0.length) = true := decide_eq_true (by omega)
         clear c59
         by_cases c60 : 0 < (l1_0.length : Int)
         ·rw [if_pos c60] at H
          have c60b0 : decide (0 < (l1_0.length : Int)) = true := decide_eq_true c60
          have c60b1 : decide (0 < l1_0.length) = true := decide_eq_true (by omega)
          clear c60
          by_cases c61 : 2 < (l1_0.length : Int)
          ·rw [if_pos c61] at H
           have c61b0 : decide (2 < (l1_0.length : Int)) = true := decide_eq_true c61
           have c61b1 : decide (2 < l1_0.length) = true := decide_eq_true (by omega)
           clear c61
           by_cases c62 : a2 = 0
           ·rw [if_pos c62] at H
            exact absurd H (by simp)
           ·rw [if_neg c62] at H
            have c62b0 : (a2 == 0) = false := beq_eq_false_iff_ne.mpr c62
            have c62b1 : (a2 != 0) = true := bne_iff_ne.mpr c62
            obtain ⟨y309, hy309⟩ : ∃ y_ : List Int, y_ = (([rd l1_0 0, wrap64 ((wrap64 (Int.tdiv (wrap64 ((rd l0_0 1) - (rd l1_0 2))) a2)) + 1)] : List Int)) := ⟨_, rfl⟩
            replace H : ((carouselref5_Good.f kj41 y309).bind fun t312 => (if t312 = true then ((carouselref5_New.f kj41 (([rd l1_0 0, wrap64 ((wrap64 (Int.tdiv (wrap64 ((rd l0_0 1) - (rd l1_0 2))) a2)) + 1)] : List Int)) 0).bind fun bt316 => (carouselref5_Row.l0 kj41 a2 (rd l0_0 0) (rd l0_0 1) (rd l1_0 0) (rd l1_0 2) (wrap64 ((wrap64 (Int.tdiv (wrap64 ((rd l0_0 1) - (rd l1_0 2))) a2)) + 1)) 0 l0_0 l0_1 l1_0 l1_1 bt316.1 bt316.2)) else (some (([] : List Int), ([] : List Int), 2)))) = some (r1, r2, r3) := by first | (rw [hy309]; with_reducible exact H) | (have H2_ := (Option.bind_some _ _).symm.trans H; rw [hy309]; with_reducible exact H2_) | (have H2_ := (Option.bind_some _ _).symm.trans H; with_reducible exact H2_) | with_reducible exact H | (rw [hy309]; exact H) | exact H
            have Ny309 := Aside0.mk hy309
            clear hy309
            replace H := Option.bind_eq_some_iff.mp H
            obtain ⟨t312, A630, H⟩ := H
            (try dsimp only at H)
            have A63 := Aside0.mk A630
            clear A630
            by_cases c64 : t312 = true
            ·subst c64
             have H1 := H
             rw [if_pos rfl] at H1
             clear H
             have H := H1
             clear H1
             obtain ⟨y313, hy313⟩ : ∃ y_ : List Int, y_ = (([rd l1_0 0, wrap64 ((wrap64 (Int.tdiv (wrap64 ((rd l0_0 1) - (rd l1_0 2))) a2)) + 1)] : List Int)) := ⟨_, rfl⟩
             replace H : ((carouselref5_New.f kj41 y313 0).bind fun bt316 => (carouselref5_Row.l0 kj41 a2 (rd l0_0 0) (rd l0_0 1) (rd l1_0 0) (rd l1_0 2) (wrap64 ((wrap64 (Int.tdiv (wrap64 ((rd l0_0 1) - (rd l1_0 2))) a2)) + 1)) 0 l0_0 l0_1 l1_0 l1_1 bt316.1 bt316.2)) = some (r1, r2, r3) := by first | (rw [hy313]; with_reducible exact H) | (have H2_ := (Option.bind_some _ _).symm.trans H; rw [hy313]; with_reducible exact H2_) | (have H2_ := (Option.bind_some _ _).symm.trans H; with_reducible exact H2_) | with_reducible exact H | (rw [hy313]; exact H) | exact H
             have Ny313 := Aside0.mk hy313
             clear hy313
             replace H := Option.bind_eq_some_iff.mp H
             obtain ⟨⟨t316, t319⟩, A650, H⟩ := H
             (try dsimp only at H)
             have A65 := Aside0.mk A650
             clear A650
             have H' := Aside0.mk H
             clear H
             try go_wp2
             replace BK296 := Aside0.mk (blk_drew BK296.out)
             replace BK297 := Aside0.mk (blk_drew BK297.out)
             replace BK298 := Aside0.mk (blk_drew BK298.out)
             replace HB := Aside0.mk (below_drew1 HB.out)
             have p305 : 0 ≤ (0 : Int) := (by omega)
             have q305 : 0 < (l0_0.length : Int) := of_decide_eq_true (by first | (with_reducible assumption) | assumption)
             obtain ⟨ad305, e305, hx305_0⟩ := Kd.at_int HR0_0.out 0 p305 q305
             have hw305_0 := hx305_0
             (try rw [show ((0 : Int)).toNat = 0 from rfl] at hw305_0)
             (try rw [show 0 * 1 = 0 from rfl] at hw305_0)
             (try rw [Addr.add_zero'] at hw305_0)
             cases e305
             have qi305 : (0 < l0_0.length) = True := eq_true (by omega)
             (try rw [show ((0 : Int)).toNat = 0 from rfl] at hx305_0)
             (try rw [Addr.add_zero'] at hx305_0)
             replace hx305_0 := (HB.out.cell (World.block_lt_of_cell? w _ hx305_0)).trans hx305_0
             replace p305 := eq_true p305
             replace q305 := eq_true q305
             have p306 : 0 ≤ (1 : Int) := (by omega)
             have q306 : 1 < (l0_0.length : Int) := of_decide_eq_true (by first | (with_reducible assumption) | assumption)
             obtain ⟨ad306, e306, hx306_0⟩ := Kd.at_int HR0_0.out 1 p306 q306
             have hw306_0 := hx306_0
             (try rw [show ((1 : Int)).toNat = 1 from rfl] at hw306_0)
             (try rw [show 1 * 1 = 1 from rfl] at hw306_0)
             (try simp only [Nat.reduceMul, Nat.reduceEqDiff, Go.Addr.add, ↓reduceIte] at hw306_0)
             obtain rfl : ad305 = ad306 := (by injection e306)
             (try simp only [show (1 : Int).toNat = 1 from rfl, Nat.reduceMul, Nat.reduceEqDiff, Go.Addr.add, ↓reduceIte] at hx306_0)
             have qi306 : (1 < l0_0.length) = True := eq_true (by omega)
             (try rw [show ((1 : Int)).toNat = 1 from rfl] at hx306_0)
             replace hx306_0 := (HB.out.cell (World.block_lt_of_cell? w _ hx306_0)).trans hx306_0
             replace p306 := eq_true p306
             replace q306 := eq_true q306
             have p307 : 0 ≤ (0 : Int) := (by omega)
             have q307 : 0 < (l1_0.length : Int) := of_decide_eq_true (by first | (with_reducible assumption) | assumption)
             obtain ⟨ad307, e307, hx307_0⟩ := Kd.at_int HR1_0.out 0 p307 q307
             have hw307_0 := hx307_0
             (try rw [show ((0 : Int)).toNat = 0 from rfl] at hw307_0)
             (try rw [show 0 * 1 = 0 from rfl] at hw307_0)
             (try rw [Addr.add_zero'] at hw307_0)
             cases e307
             have qi307 : (0 < l1_0.length) = True := eq_true (by omega)
             (try rw [show ((0 : Int)).toNat = 0 from rfl] at hx307_0)
             (try rw [Addr.add_zero'] at hx307_0)
             replace hx307_0 := (HB.out.cell (World.block_lt_of_cell? w _ hx307_0)).trans hx307_0
             replace p307 := eq_true p307
             replace q307 := eq_true q307
             have p308 : 0 ≤ (2 : Int) := (by omega)
             have q308 : 2 < (l1_0.length : Int) := of_decide_eq_true (by first | (with_reducible assumption) | assumption)
             obtain ⟨ad308, e308, hx308_0⟩ := Kd.at_int HR1_0.out 2 p308 q308
             have hw308_0 := hx308_0
             (try rw [show ((2 : Int)).toNat = 2 from rfl] at hw308_0)
             (try rw [show 2 * 1 = 2 from rfl] at hw308_0)
             (try simp only [Nat.reduceMul, Nat.reduceEqDiff, Go.Addr.add, ↓reduceIte] at hw308_0)
             obtain rfl : ad307 = ad308 := (by injection e308)
             (try simp only [show (2 : Int).toNat = 2 from rfl, Nat.reduceMul, Nat.reduceEqDiff, Go.Addr.add, ↓reduceIte] at hx308_0)
             have qi308 : (2 < l1_0.length) = True := eq_true (by omega)
             (try rw [show ((2 : Int)).toNat = 2 from rfl] at hx308_0)
             replace hx308_0 := (HB.out.cell (World.block_lt_of_cell? w _ hx308_0)).trans hx308_0
             replace p308 := eq_true p308
             replace q308 := eq_true q308
             refine start_ (n := 20) (S := fun w' => w'.cell? ⟨gb296, 0, none⟩ = some (.slice (some ad305) l0_0.length c0_0) ∧ w'.cell? ⟨gb296, 1, none⟩ = some (.slice A0_1 l0_1.length c0_1) ∧ w'.cell? ⟨gb297, 0, none⟩ = some (.slice (some ad307) l1_0.length c1_0) ∧ w'.cell? ⟨gb297, 1, none⟩ = some (.slice A1_1 l1_1.length c1_1) ∧ w'.cell? ad305 = some (.int .i64 (rd l0_0 0)) ∧ w'.cell? ⟨ad305.block, ad305.off + 1, none⟩ = some (.int .i64 (rd l0_0 1)) ∧ w'.cell? ad307 = some (.int .i64 (rd l1_0 0)) ∧ w'.cell? ⟨ad307.block, ad307.off + 2, none⟩ = some (.int .i64 (rd l1_0 2))) (ds := []) #[false, false, false, false, false, false, false, false, false, false, false, false, false, false, false, false, false, false, false, false] (by kernel_rfl) rfl rfl ⟨(blk_cell BK296.out 0).trans rfl, (blk_cell BK296.out 1).trans rfl, (blk_cell BK297.out 0).trans rfl, (blk_cell BK297.out 1).trans rfl, ((HB.out.cell (World.block_lt_of_cell? w _ hw305_0)).trans hw305_0), ((HB.out.cell (World.block_lt_of_cell? w _ hw306_0)).trans hw306_0), ((HB.out.cell (World.block_lt_of_cell? w _ hw307_0)).trans hw307_0), ((HB.out.cell (World.block_lt_of_cell? w _ hw308_0)).trans hw308_0)⟩ (fun hHeld => ?_); refine with_tabW carouselref5_Row.tab5 carouselref5_Row.bits5 (fun HT_ HW_ => ?_)
             generalize wc.drew = w66 at BK296 BK297 BK298 HB hx305_0 hx306_0 hx307_0 hx308_0 hHeld ⊢
             refine zp_ 0 (some 69) (h := ?_)
             refine zp_ 4 (some 73) (h := ?_)
             refine zp_ 8 (some 77) (h := ?_)
             refine zp_ 12 (some 81) (h := ?_)
             refine zt_ 1 (some 70) (hr := by rintro w' ⟨s0, s1, s2, s3, s4, s5, s6, s7⟩; go_simp; with_reducible rfl) (h := ?_)
             refine zp_ 2 (some 71) (h := ?_)
             refine zt_ 3 (some 72) (hr := by rintro w' ⟨s0, s1, s2, s3, s4, s5, s6, s7⟩; go_simp; with_reducible rfl) (h := ?_)
             refine zp_ 16 (some 8) (h := ?_)
             refine zt_ 5 (some 74) (hr := by rintro w' ⟨s0, s1, s2, s3, s4, s5, s6, s7⟩; go_simp; with_reducible rfl) (h := ?_)
             refine zp_ 6 (some 75) (h := ?_)
             refine zt_ 7 (some 76) (hr := by rintro w' ⟨s0, s1, s2, s3, s4, s5, s6, s7⟩; go_simp; with_reducible rfl) (h := ?_)
             refine zp_ 17 (some 9) (h := ?_)
             refine zt_ 9 (some 78) (hr := by rintro w' ⟨s0, s1, s2, s3, s4, s5, s6, s7⟩; go_simp; with_reducible rfl) (h := ?_)
             refine zp_ 10 (some 79) (h := ?_)
             refine zt_ 11 (some 80) (hr := by rintro w' ⟨s0, s1, s2, s3, s4, s5, s6, s7⟩; go_simp; with_reducible rfl) (h := ?_)
             refine zp_ 18 (some 10) (h := ?_)
             refine zt_ 13 (some 82) (hr := by rintro w' ⟨s0, s1, s2, s3, s4, s5, s6, s7⟩; go_simp; with_reducible rfl) (h := ?_)
             refine zp_ 14 (some 83) (h := ?_)
             refine zt_ 15 (some 84) (hr := by rintro w' ⟨s0, s1, s2, s3, s4, s5, s6, s7⟩; go_simp; with_reducible rfl) (h := ?_)
             refine zp_ 19 (some 11) (h := ?_)
             refine done_ (done_of HT_.out (by kernel_rfl)) ?_
             try go_wp2_with (first | ((with_reducible refine gate_dst (N := 93) rfl ?_); (try (refine gate_guard (by rfl) ?_; dsimp only)); refine Kd.R_lit (Kd.int .i64) _ 3 ?hg (N := 93) ?hd (xs := ([rd l1_0 0, wrap64 ((wrap64 (Int.tdiv (wrap64 ((rd l0_0 1) - (rd l1_0 2))) a2)) + 1)] : List Int)) (inner := [.int .i64 (rd l1_0 0), .int .i64 (wrap64 ((wrap64 (Int.tdiv (wrap64 ((rd l0_0 1) - (rd l1_0 2))) a2)) + 1))]) (ok := fun _ => True) (okp := fun _ => True) ?hr ?hp (fun _ hk => hk) trivial (Below.refl _ _) (Nat.le_refl _) (by simp) ?_; (case hd => rfl); (case hg => rfl); (case hr => first | (go_simp; done) | (go_simp; rfl)); (case hp => exact (Reps.one (show Kd.M (Kd.int .i64) _ _ _ (rd l1_0 0) [.int .i64 (rd l1_0 0)] from rfl) (Reps.one (show Kd.M (Kd.int .i64) _ _ _ (wrap64 ((wrap64 (Int.tdiv (wrap64 ((rd l0_0 1) - (rd l1_0 2))) a2)) + 1)) [.int .i64 (wrap64 ((wrap64 (Int.tdiv (wrap64 ((rd l0_0 1) - (rd l1_0 2))) a2)) + 1))] from rfl) (Reps.none _ _)))); intro v310 w67 ho68 hb hg_ hnew_; clear hg_ hnew_; (first | rw [← Ny309.out] at ho68 | (simp only [Int.reduceToNat] at ho68; rw [← Ny309.out] at ho68)); have HO311 := Aside0.mk (Kd.R_lower ho68 (below_size (zw3_ HB GE296 GE297 GE298))); replace BK296 := Aside0.mk (zl_ BK296 hb); replace BK297 := Aside0.mk (zl_ BK297 hb); replace BK298 := Aside0.mk (zl_ BK298 hb); replace HB := Aside0.mk (below_step (zw3_ HB GE296 GE297 GE298) hb); clear hb ho68; obtain ⟨Ao69, co69, eo69⟩ := Kd.R_slice HO311.out; subst eo69) | ((with_reducible refine gate_callee (f := 33) rfl ?_); refine zg_ (some 94) Try.func33 #[.slice Ao69 y309.length co69] (h := ?_); (with_reducible refine (carouselref5_Good.calls kj41 _ _ y309 true _ ?side1 ?side2 A63.out).mono ?_); (case side1 => exact zk_ ((Kd.R_reads' HO311.out).2.2)); (case side2 => exact (Kd.R_reads' HO311.out).2.1); rintro e w' ⟨rfl, ⟨nd, rfl⟩⟩; refine ⟨_, rfl, ?_⟩; (try (rw [drewN_self w67]; generalize hq_ : World.drewN w67 _ = w67; have n0_ : Aside0 (Kd.R (Kd.int .i64) 3 w67 w.heap.size (fun _ => True) (.slice Ao69 y309.length co69) y309) := ⟨by rw [← hq_]; exact (zr_ HO311.out)⟩; have n1_ : Aside0 (w67.heap[gb296]? = some (.cells #[.slice (some ad305) l0_0.length c0_0, .slice A0_1 l0_1.length c0_1] 25 (0, 0))) := ⟨by rw [← hq_]; exact (zb_ BK296)⟩; have n2_ : Aside0 (w67.heap[gb297]? = some (.cells #[.slice (some ad307) l1_0.length c1_0, .slice A1_1 l1_1.length c1_1] 25 (0, 0))) := ⟨by rw [← hq_]; exact (zb_ BK297)⟩; have n3_ : Aside0 (w67.heap[gb298]? = some (.cells #[.slice none 0 0, .slice none 0 0] 25 (0, 0))) := ⟨by rw [← hq_]; exact (zb_ BK298)⟩; have n4_ : Aside0 (Below w.heap.size w w67) := ⟨by rw [← hq_]; exact (zw3_ HB GE296 GE297 GE298)⟩; clear HO311 BK296 BK297 BK298 HB hq_; have HO311 := n0_; have BK296 := n1_; have BK297 := n2_; have BK298 := n3_; have HB := n4_; clear n0_ n1_ n2_ n3_ n4_))) | ((with_reducible refine gate_dst (N := 99) rfl ?_); (try (refine gate_guard (by rfl) ?_; dsimp only)); refine Kd.R_lit (Kd.int .i64) _ 3 ?hg (N := 99) ?hd (xs := ([rd l1_0 0, wrap64 ((wrap64 (Int.tdiv (wrap64 ((rd l0_0 1) - (rd l1_0 2))) a2)) + 1)] : List Int)) (inner := [.int .i64 (rd l1_0 0), .int .i64 (wrap64 ((wrap64 (Int.tdiv (wrap64 ((rd l0_0 1) - (rd l1_0 2))) a2)) + 1))]) (ok := fun _ => True) (okp := fun _ => True) ?hr ?hp (fun _ hk => hk) trivial (Below.refl _ _) (Nat.le_refl _) (by simp) ?_; (case hd => rfl); (case hg => rfl); (case hr => first | (go_simp; done) | (go_simp; rfl)); (case hp => exact (Reps.one (show Kd.M (Kd.int .i64) _ _ _ (rd l1_0 0) [.int .i64 (rd l1_0 0)] from rfl) (Reps.one (show Kd.M (Kd.int .i64) _ _ _ (wrap64 ((wrap64 (Int.tdiv (wrap64 ((rd l0_0 1) - (rd l1_0 2))) a2)) + 1)) [.int .i64 (wrap64 ((wrap64 (Int.tdiv (wrap64 ((rd l0_0 1) - (rd l1_0 2))) a2)) + 1))] from rfl) (Reps.none _ _)))); intro v314 w70 ho71 hb hg_ hnew_; clear hg_ hnew_; (first | rw [← Ny313.out] at ho71 | (simp only [Int.reduceToNat] at ho71; rw [← Ny313.out] at ho71)); have HO315 := Aside0.mk (Kd.R_lower (Kd.R_new' ho71 (Kd.R_lt (zr_ HO311.out))) (below_size (zw3_ HB GE296 GE297 GE298))); replace HO311 := Aside0.mk (Kd.R_elder' (zr_ HO311.out) (Kd.R_base ho71) hb); replace BK296 := Aside0.mk (zl_ BK296 hb); replace BK297 := Aside0.mk (zl_ BK297 hb); replace BK298 := Aside0.mk (zl_ BK298 hb); replace HB := Aside0.mk (below_step (zw3_ HB GE296 GE297 GE298) hb); clear hb ho71; obtain ⟨Ao72, co72, eo72⟩ := Kd.R_slice HO315.out; subst eo72) | ((with_reducible refine gate_callee (f := 34) rfl ?_); refine zg_ (some 100) Try.func34 #[.slice Ao72 y313.length co72, .int .i64 0] (h := ?_); (with_reducible refine (carouselref5_New.calls kj41 _ _ y313 0 t316 t319 _ ?side1 ?side2 A65.out).mono ?_); (case side1 => exact zk_ ((Kd.R_reads' HO315.out).2.2)); (case side2 => exact (Kd.R_reads' HO315.out).2.1); rintro e w73 ⟨v317, v320, rfl, ho0, ho1, hb⟩; refine ⟨_, rfl, ?_⟩; have HO318 := Aside0.mk (Kd.R_lower (Kd.R_new' (Kd.R_new' ho0 (Kd.R_lt (zr_ HO311.out))) (Kd.R_lt (zr_ HO315.out))) (below_size (zw3_ HB GE296 GE297 GE298))); replace HO311 := Aside0.mk (Kd.R_elder' (zr_ HO311.out) (Kd.R_base ho0) hb); replace HO315 := Aside0.mk (Kd.R_elder' (zr_ HO315.out) (Kd.R_base ho0) hb); have HO321 := Aside0.mk (Kd.R_lower ho1 (below_size (zw3_ HB GE296 GE297 GE298))); replace BK296 := Aside0.mk (zl_ BK296 hb); replace BK297 := Aside0.mk (zl_ BK297 hb); replace BK298 := Aside0.mk (zl_ BK298 hb); replace HB := Aside0.mk (below_step (zw3_ HB GE296 GE297 GE298) hb); (try clear hb); (try clear ho0); (try clear ho1)) | ((with_reducible refine gate_dst (N := 13) rfl ?_); (try (refine gate_guard (by rfl) ?_; dsimp only)); refine box_event ?hg (N := 13) ?hd (cs := #[.slice none 0 0, .slice none 0 0]) (t := 25) ?hr ?_; (case hd => rfl); (case hg => rfl); (case hr => first | (go_simp; done) | (go_simp; rfl)); intro gb322 hg w74 hbox hb; replace HO311 := Aside0.mk (Kd.R_below (zr_ HO311.out) hb); replace HO315 := Aside0.mk (Kd.R_below (zr_ HO315.out) hb); replace HO318 := Aside0.mk (Kd.R_below (zr_ HO318.out) hb); replace HO321 := Aside0.mk (Kd.R_below (zr_ HO321.out) hb); have BK322 := Aside0.mk (hbox); have GW322 := Aside0.mk (zs_ hg (zw3_ HB GE296 GE297 GE298)); have GE322 := Aside0.mk (zs_ hg (zw3_ HB GE296 GE297 GE298)); replace HB := Aside0.mk (below_step (zw3_ HB GE296 GE297 GE298) hb); have NB296_322 := Aside0.mk (zn_ hg BK296); have NB322_296 := Aside0.mk (zm_ hg BK296); replace BK296 := Aside0.mk (zl_ BK296 hb); have NB297_322 := Aside0.mk (zn_ hg BK297); have NB322_297 := Aside0.mk (zm_ hg BK297); replace BK297 := Aside0.mk (zl_ BK297 hb); have NB298_322 := Aside0.mk (zn_ hg BK298); have NB322_298 := Aside0.mk (zm_ hg BK298); replace BK298 := Aside0.mk (zl_ BK298 hb); clear hb hbox hg; obtain ⟨Ao75, co75, eo75⟩ := Kd.R_slice HO318.out; subst eo75; have hnb76 := NB322_296.out; have hnc76 := NB296_322.out; have hnb77 := NB322_297.out; have hnc77 := NB297_322.out; have hnb78 := NB322_298.out; have hnc78 := NB298_322.out; have hcz79_0 := zx_ (v := .slice none 0 0) BK322 0; have hcz79_1 := zx_ (v := .slice none 0 0) BK322 1; have hfz79_0 := blk_frozen BK322.out 0; have hfz79_1 := blk_frozen BK322.out 1; obtain ⟨Ao80, co80, eo80⟩ := Kd.R_slice HO321.out; subst eo80))
             go_loopg [14] kj41 (fun kq v14 w' => ∃ (x14_3 : Int) (x323001_3 : List Int) (u323001 : Value), v14 = .int .i64 x14_3 ∧ Aside0 (carouselref5_Row.l0 kq a2 (rd l0_0 0) (rd l0_0 1) (rd l1_0 0) (rd l1_0 2) (wrap64 ((wrap64 (Int.tdiv (wrap64 ((rd l0_0 1) - (rd l1_0 2))) a2)) + 1)) x14_3 l0_0 l0_1 l1_0 l1_1 t316 x323001_3 = some (r1, r2, r3)) ∧ Aside0 (kq ≤ kj41) ∧ Aside0 (Kd.R (Kd.int .i64) 3 w' w.heap.size (fun _ => True) (.slice Ao75 t316.length co75) t316) ∧ Aside0 (Kd.R (Kd.int .i64) 33 w' w.heap.size (fun _ => True) u323001 x323001_3) ∧ Aside0 (w'.heap[gb296]? = some (.cells #[(.slice (some ad305) l0_0.length c0_0), (.slice A0_1 l0_1.length c0_1)] 25 (0, 0))) ∧ Aside0 (w'.heap[gb297]? = some (.cells #[(.slice (some ad307) l1_0.length c1_0), (.slice A1_1 l1_1.length c1_1)] 25 (0, 0))) ∧ Aside0 (w'.heap[gb298]? = some (.cells #[(.slice none 0 0), (.slice none 0 0)] 25 (0, 0))) ∧ Aside0 (w'.heap[gb322]? = some (.cells #[(.slice Ao75 t316.length co75), u323001] 25 (0, 0))) ∧ Aside0 (Below w.heap.size w w'))
             case atStart => exact ⟨(0), (t319), (.slice Ao80 t319.length co80), (by first | rfl | (simp; done) | (simp [*]; done)), H', ⟨Nat.le_refl _⟩, ⟨zr_ (Kd.R_mono (Kd.R_far (p := ⟨gb322, 1, none⟩) (Kd.R_far (p := ⟨gb322, 0, none⟩) (Kd.R_types HO318.out BK322.out (by decide)) (fun _ hk => hk.2) (.slice Ao75 t316.length co75)) (fun _ hk => hk.2) (.slice Ao80 t319.length co80)) (fun _ hk => trivial))⟩, ⟨zr_ (Kd.R_mono (Kd.R_far (p := ⟨gb322, 1, none⟩) (Kd.R_far (p := ⟨gb322, 0, none⟩) (Kd.R_types HO321.out BK322.out (by decide)) (fun _ hk => hk.2) (.slice Ao75 t316.length co75)) (fun _ hk => hk.2) (.slice Ao80 t319.length co80)) (fun _ hk => trivial))⟩, ⟨by (with_reducible repeat (first | refine blk_drewN ?_ _ | refine blk_drew ?_ | refine blk_alloc ?_ _)); refine blk_far ?_ NB296_322.out _; (with_reducible repeat (first | refine blk_drewN ?_ _ | refine blk_drew ?_ | refine blk_alloc ?_ _)); refine blk_far ?_ NB296_322.out _; (with_reducible repeat (first | refine blk_drewN ?_ _ | refine blk_drew ?_ | refine blk_alloc ?_ _)); exact BK296.out⟩, ⟨by (with_reducible repeat (first | refine blk_drewN ?_ _ | refine blk_drew ?_ | refine blk_alloc ?_ _)); refine blk_far ?_ NB297_322.out _; (with_reducible repeat (first | refine blk_drewN ?_ _ | refine blk_drew ?_ | refine blk_alloc ?_ _)); refine blk_far ?_ NB297_322.out _; (with_reducible repeat (first | refine blk_drewN ?_ _ | refine blk_drew ?_ | refine blk_alloc ?_ _)); exact BK297.out⟩, ⟨by (with_reducible repeat (first | refine blk_drewN ?_ _ | refine blk_drew ?_ | refine blk_alloc ?_ _)); refine blk_far ?_ NB298_322.out _; (with_reducible repeat (first | refine blk_drewN ?_ _ | refine blk_drew ?_ | refine blk_alloc ?_ _)); refine blk_far ?_ NB298_322.out _; (with_reducible repeat (first | refine blk_drewN ?_ _ | refine blk_drew ?_ | refine blk_alloc ?_ _)); exact BK298.out⟩, ⟨by (with_reducible repeat (first | refine blk_drewN ?_ _ | refine blk_drew ?_ | refine blk_alloc ?_ _)); refine blk_put (cs := #[.slice Ao75 t316.length co75, .slice none 0 0]) ?_ 1 _ rfl; (with_reducible repeat (first | refine blk_drewN ?_ _ | refine blk_drew ?_ | refine blk_alloc ?_ _)); refine blk_put (cs := #[.slice none 0 0, .slice none 0 0]) ?_ 0 _ rfl; (with_reducible repeat (first | refine blk_drewN ?_ _ | refine blk_drew ?_ | refine blk_alloc ?_ _)); exact BK322.out⟩, ⟨zw4_ HB GE296 GE297 GE298 GE322⟩⟩
             case round =>
              clear H'
              try clear c1
              try clear p2
              try clear c3
              try clear p3
              try clear q3
              try clear hx3
              try clear qi3
              try clear c4
              try clear c5
              try clear c6
              try clear p6
              try clear c7
              try clear p30
              try clear q30
              try clear hx30
              try clear qi30
              try clear c33
              try clear c34
              try clear c43
              try clear c43b0
              try clear c43b1
              try clear c44
              try clear c44b0
              try clear c44b1
              try clear c45
              try clear c46
              try clear c54
              try clear c55
              try clear c56
              try clear c58
              try clear c58b0
              try clear c58b1
              try clear c59
              try clear c59b0
              try clear c59b1
              try clear c60
              try clear c60b0
              try clear c60b1
              try clear c61
              try clear c61b0
              try clear c61b1
              try clear c62
              try clear c62b0
              try clear c62b1
              try clear c64
              try clear p64
              try clear c76
              try clear c77
              try clear c78
              try clear hcz57_0
              try clear hcz57_1
              try clear hcz79_0
              try clear hcz79_1
              try clear hfz57_0
              try clear hfz57_1
              try clear hfz79_0
              try clear hfz79_1
              try clear hx305_0
              try clear hx306_0
              try clear hx307_0
              try clear hx308_0
              try clear p2
              try clear p305
              try clear p306
              try clear p307
              try clear p308
              try clear q305
              try clear q306
              try clear q307
              try clear q308
              obtain ⟨x14_3, x323001_3, u323001, rfl, HA, HK3, HO_323000, HO_323001, BK296, BK297, BK298, BK322, HB⟩ := hrel
              cases gk with
              | zero => exact absurd HA.out (by simp [carouselref5_Row.l0])
              | succ k3 =>
               have H := HA.out
               clear HA
               simp only [carouselref5_Row.l0] at H
               by_cases c81 : x14_3 < (rd l1_0 0)
               ·rw [if_pos c81] at H
                have c81b0 : decide (x14_3 < (rd l1_0 0)) = true := decide_eq_true c81
                clear c81
                have H' := Aside0.mk H
                clear H
                go_wp2
                go_loopg [15] k3 (fun kq v15 w' => ∃ (x15_4 : Int) (x323001_4 : List Int) (u323001 : Value), v15 = .int .i64 x15_4 ∧ Aside0 (carouselref5_Row.l1 kq a2 (rd l0_0 0) (rd l0_0 1) (rd l1_0 0) (rd l1_0 2) (wrap64 ((wrap64 (Int.tdiv (wrap64 ((rd l0_0 1) - (rd l1_0 2))) a2)) + 1)) x14_3 x15_4 l0_0 l0_1 l1_0 l1_1 t316 x323001_4 = some (r1, r2, r3)) ∧ Aside0 (kq ≤ k3) ∧ Aside0 (Kd.R (Kd.int .i64) 3 w' w.heap.size (fun _ => True) (.slice Ao75 t316.length co75) t316) ∧ Aside0 (Kd.R (Kd.int .i64) 33 w' w.heap.size (fun _ => True) u323001 x323001_4) ∧ Aside0 (w'.heap[gb296]? = some (.cells #[(.slice (some ad305) l0_0.length c0_0), (.slice A0_1 l0_1.length c0_1)] 25 (0, 0))) ∧ Aside0 (w'.heap[gb297]? = some (.cells #[(.slice (some ad307) l1_0.length c1_0), (.slice A1_1 l1_1.length c1_1)] 25 (0, 0))) ∧ Aside0 (w'.heap[gb298]? = some (.cells #[(.slice none 0 0), (.slice none 0 0)] 25 (0, 0))) ∧ Aside0 (w'.heap[gb322]? = some (.cells #[(.slice Ao75 t316.length co75), u323001] 25 (0, 0))) ∧ Aside0 (Below w.heap.size w w'))
                case atStart => exact ⟨(0), (x323001_3), (u323001), (by first | rfl | (simp; done) | (simp [*]; done)), H', ⟨Nat.le_refl _⟩, ⟨zr_ HO_323000.out⟩, ⟨zr_ HO_323001.out⟩, ⟨zb_ BK296⟩, ⟨zb_ BK297⟩, ⟨zb_ BK298⟩, ⟨zb_ BK322⟩, ⟨zw4_ HB GE296 GE297 GE298 GE322⟩⟩
                case round =>
                 clear H'
                 try clear c1
                 try clear p2
                 try clear c3
                 try clear p3
                 try clear q3
                 try clear hx3
                 try clear qi3
                 try clear c4
                 try clear c5
                 try clear c6
                 try clear p6
                 try clear c7
                 try clear c8
                 try clear p30
                 try clear q30
                 try clear hx30
                 try clear qi30
                 try clear c33
                 try clear c34
                 try clear c43
                 try clear c43b0
                 try clear c43b1
                 try clear c44
                 try clear c44b0
                 try clear c44b1
                 try clear c45
                 try clear c46
                 try clear c54
                 try clear c55
                 try clear c56
                 try clear c58
                 try clear c58b0
                 try clear c58b1
                 try clear c59
                 try clear c59b0
                 try clear c59b1
                 try clear c60
                 try clear c60b0
                 try clear c60b1
                 try clear c61
                 try clear c61b0
                 try clear c61b1
                 try clear c62
                 try clear c62b0
                 try clear c62b1
                 try clear c64
                 try clear p64
                 try clear c76
                 try clear c77
                 try clear c78
                 try clear c81
                 try clear c81b0
                 try clear hcz57_0
                 try clear hcz57_1
                 try clear hcz79_0
                 try clear hcz79_1
                 try clear hfz57_0
                 try clear hfz57_1
                 try clear hfz79_0
                 try clear hfz79_1
                 try clear hx305_0
                 try clear hx306_0
                 try clear hx307_0
                 try clear hx308_0
                 try clear p2
                 try clear p3
                 try clear p30
                 try clear p305
                 try clear p306
                 try clear p307
                 try clear p308
                 try clear p6
                 try clear p64
                 try clear q3
                 try clear q30
                 try clear q305
                 try clear q306
                 try clear q307
                 try clear q308
                 obtain ⟨x15_4, x323001_4, u323001, rfl, HA, HK4, HO_323000, HO_323001, BK296, BK297, BK298, BK322, HB⟩ := hrel
                 cases gk with
                 | zero => exact absurd HA.out (by simp [carouselref5_Row.l1])
                 | succ k4 =>
                  have H := HA.out
                  clear HA
                  simp only [carouselref5_Row.l1] at H
                  by_cases c82 : x15_4 < (wrap64 ((wrap64 (Int.tdiv (wrap64 ((rd l0_0 1) - (rd l1_0 2))) a2)) + 1))
                  ·rw [if_pos c82] at H
                   have c82b0 : decide (x15_4 < (wrap64 ((wrap64 (Int.tdiv (wrap64 ((rd l0_0 1) - (rd l1_0 2))) a2)) + 1))) = true := decide_eq_true c82
                   clear c82
                   have H' := Aside0.mk H
                   clear H
                   go_wp2_with (first | ((with_reducible refine gate_dst (N := 16) rfl ?_); (try (refine gate_guard (by rfl) ?_; dsimp only)); refine box_event ?hg (N := 16) ?hd (cs := #[.bool false, .int .u64 0, .int .u64 0, .int .u64 0, .int .u64 0]) (t := 61) ?hr ?_; (case hd => rfl); (case hg => rfl); (case hr => first | (go_simp; done) | (go_simp; rfl)); intro gb323 hg w83 hbox hb; replace HO_323000 := Aside0.mk (Kd.R_below (zr_ HO_323000.out) hb); replace HO_323001 := Aside0.mk (Kd.R_below (zr_ HO_323001.out) hb); have BK323 := Aside0.mk (hbox); have GW323 := Aside0.mk (zs_ hg (zw4_ HB GE296 GE297 GE298 GE322)); have GE323 := Aside0.mk (zs_ hg (zw4_ HB GE296 GE297 GE298 GE322)); replace HB := Aside0.mk (below_step (zw4_ HB GE296 GE297 GE298 GE322) hb); have NB296_323 := Aside0.mk (zn_ hg BK296); have NB323_296 := Aside0.mk (zm_ hg BK296); replace BK296 := Aside0.mk (zl_ BK296 hb); have NB297_323 := Aside0.mk (zn_ hg BK297); have NB323_297 := Aside0.mk (zm_ hg BK297); replace BK297 := Aside0.mk (zl_ BK297 hb); have NB298_323 := Aside0.mk (zn_ hg BK298); have NB323_298 := Aside0.mk (zm_ hg BK298); replace BK298 := Aside0.mk (zl_ BK298 hb); have NB322_323 := Aside0.mk (zn_ hg BK322); have NB323_322 := Aside0.mk (zm_ hg BK322); replace BK322 := Aside0.mk (zl_ BK322 hb); clear hb hbox hg; have hnb84 := NB323_296.out; have hnc84 := NB296_323.out; have hnb85 := NB323_297.out; have hnc85 := NB297_323.out; have hnb86 := NB323_298.out; have hnc86 := NB298_323.out; have hnb87 := NB323_322.out; have hnc87 := NB322_323.out; have hcz88_0 := zx_ (v := .bool false) BK323 0; have hcz88_1 := zx_ (v := .int .u64 0) BK323 1; have hcz88_2 := zx_ (v := .int .u64 0) BK323 2; have hcz88_3 := zx_ (v := .int .u64 0) BK323 3; have hcz88_4 := zx_ (v := .int .u64 0) BK323 4; have hfz88_0 := blk_frozen BK323.out 0; have hfz88_1 := blk_frozen BK323.out 1; have hfz88_2 := blk_frozen BK323.out 2; have hfz88_3 := blk_frozen BK323.out 3; have hfz88_4 := blk_frozen BK323.out 4))
                   go_loopg [17] k4 (fun kq v17 w' => ∃ (x17_5 : Int) (x324000_5 : Bool) (x324001_5 : Int) (x324002_5 : Int) (x324003_5 : Int) (x324004_5 : Int), v17 = .int .i64 x17_5 ∧ Aside0 (carouselref5_Row.l2 kq a2 (rd l0_0 0) (rd l0_0 1) (rd l1_0 0) (rd l1_0 2) (wrap64 ((wrap64 (Int.tdiv (wrap64 ((rd l0_0 1) - (rd l1_0 2))) a2)) + 1)) x14_3 x15_4 x17_5 l0_0 l0_1 l1_0 l1_1 t316 x323001_4 x324000_5 x324001_5 x324002_5 x324003_5 x324004_5 = some (r1, r2, r3)) ∧ Aside0 (kq ≤ k4) ∧ Aside0 (Kd.R (Kd.int .i64) 3 w' w.heap.size (fun _ => True) (.slice Ao75 t316.length co75) t316) ∧ Aside0 (Kd.R (Kd.int .i64) 33 w' w.heap.size (fun _ => True) u323001 x323001_4) ∧ Aside0 (w'.heap[gb296]? = some (.cells #[(.slice (some ad305) l0_0.length c0_0), (.slice A0_1 l0_1.length c0_1)] 25 (0, 0))) ∧ Aside0 (w'.heap[gb297]? = some (.cells #[(.slice (some ad307) l1_0.length c1_0), (.slice A1_1 l1_1.length c1_1)] 25 (0, 0))) ∧ Aside0 (w'.heap[gb298]? = some (.cells #[(.slice none 0 0), (.slice none 0 0)] 25 (0, 0))) ∧ Aside0 (w'.heap[gb322]? = some (.cells #[(.slice Ao75 t316.length co75), u323001] 25 (0, 0))) ∧ Aside0 (w'.heap[gb323]? = some (.cells #[.bool x324000_5, .int .u64 x324001_5, .int .u64 x324002_5, .int .u64 x324003_5, .int .u64 x324004_5] 61 (0, 0))) ∧ Aside0 (Below w.heap.size w w'))
                   case atStart => exact ⟨(0), (false), (0), (0), (0), (0), (by first | rfl | (simp; done) | (simp [*]; done)), H', ⟨Nat.le_refl _⟩, ⟨zr_ (Kd.R_mono (Kd.R_far (p := ⟨gb323, 4, none⟩) (Kd.R_far (p := ⟨gb323, 3, none⟩) (Kd.R_far (p := ⟨gb323, 2, none⟩) (Kd.R_far (p := ⟨gb323, 1, none⟩) (Kd.R_far (p := ⟨gb323, 0, none⟩) (Kd.R_types HO_323000.out BK323.out (by decide)) (fun _ hk => hk.2) (.bool false)) (fun _ hk => hk.2) (.int .u64 0)) (fun _ hk => hk.2) (.int .u64 0)) (fun _ hk => hk.2) (.int .u64 0)) (fun _ hk => hk.2) (.int .u64 0)) (fun _ hk => trivial))⟩, ⟨zr_ (Kd.R_mono (Kd.R_far (p := ⟨gb323, 4, none⟩) (Kd.R_far (p := ⟨gb323, 3, none⟩) (Kd.R_far (p := ⟨gb323, 2, none⟩) (Kd.R_far (p := ⟨gb323, 1, none⟩) (Kd.R_far (p := ⟨gb323, 0, none⟩) (Kd.R_types HO_323001.out BK323.out (by decide)) (fun _ hk => hk.2) (.bool false)) (fun _ hk => hk.2) (.int .u64 0)) (fun _ hk => hk.2) (.int .u64 0)) (fun _ hk => hk.2) (.int .u64 0)) (fun _ hk => hk.2) (.int .u64 0)) (fun _ hk => trivial))⟩, ⟨by (with_reducible repeat (first | refine blk_drewN ?_ _ | refine blk_drew ?_ | refine blk_alloc ?_ _)); refine blk_far ?_ NB296_323.out _; (with_reducible repeat (first | refine blk_drewN ?_ _ | refine blk_drew ?_ | refine blk_alloc ?_ _)); refine blk_far ?_ NB296_323.out _; (with_reducible repeat (first | refine blk_drewN ?_ _ | refine blk_drew ?_ | refine blk_alloc ?_ _)); refine blk_far ?_ NB296_323.out _; (with_reducible repeat (first | refine blk_drewN ?_ _ | refine blk_drew ?_ | refine blk_alloc ?_ _)); refine blk_far ?_ NB296_323.out _; (with_reducible repeat (first | refine blk_drewN ?_ _ | refine blk_drew ?_ | refine blk_alloc ?_ _)); refine blk_far ?_ NB296_323.out _; (with_reducible repeat (first | refine blk_drewN ?_ _ | refine blk_drew ?_ | refine blk_alloc ?_ _)); exact BK296.out⟩, ⟨by (with_reducible repeat (first | refine blk_drewN ?_ _ | refine blk_drew ?_ | refine blk_alloc ?_ _)); refine blk_far ?_ NB297_323.out _; (with_reducible repeat (first | refine blk_drewN ?_ _ | refine blk_drew ?_ | refine blk_alloc ?_ _)); refine blk_far ?_ NB297_323.out _; (with_reducible repeat (first | refine blk_drewN ?_ _ | refine blk_drew ?_ | refine blk_alloc ?_ _)); refine blk_far ?_ NB297_323.out _; (with_reducible repeat (first | refine blk_drewN ?_ _ | refine blk_drew ?_ | refine blk_alloc ?_ _)); refine blk_far ?_ NB297_323.out _; (with_reducible repeat (first | refine blk_drewN ?_ _ | refine blk_drew ?_ | refine blk_alloc ?_ _)); refine blk_far ?_ NB297_323.out _; (with_reducible repeat (first | refine blk_drewN ?_ _ | refine blk_drew ?_ | refine blk_alloc ?_ _)); exact BK297.out⟩, ⟨by (with_reducible repeat (first | refine blk_drewN ?_ _ | refine blk_drew ?_ | refine blk_alloc ?_ _)); refine blk_far ?_ NB298_323.out _; (with_reducible repeat (first | refine blk_drewN ?_ _ | refine blk_drew ?_ | refine blk_alloc ?_ _)); refine blk_far ?_ NB298_323.out _; (with_reducible repeat (first | refine blk_drewN ?_ _ | refine blk_drew ?_ | refine blk_alloc ?_ _)); refine blk_far ?_ NB298_323.out _; (with_reducible repeat (first | refine blk_drewN ?_ _ | refine blk_drew ?_ | refine blk_alloc ?_ _)); refine blk_far ?_ NB298_323.out _; (with_reducible repeat (first | refine blk_drewN ?_ _ | refine blk_drew ?_ | refine blk_alloc ?_ _)); refine blk_far ?_ NB298_323.out _; (with_reducible repeat (first | refine blk_drewN ?_ _ | refine blk_drew ?_ | refine blk_alloc ?_ _)); exact BK298.out⟩, ⟨by (with_reducible repeat (first | refine blk_drewN ?_ _ | refine blk_drew ?_ | refine blk_alloc ?_ _)); refine blk_far ?_ NB322_323.out _; (with_reducible repeat (first | refine blk_drewN ?_ _ | refine blk_drew ?_ | refine blk_alloc ?_ _)); refine blk_far ?_ NB322_323.out _; (with_reducible repeat (first | refine blk_drewN ?_ _ | refine blk_drew ?_ | refine blk_alloc ?_ _)); refine blk_far ?_ NB322_323.out _; (with_reducible repeat (first | refine blk_drewN ?_ _ | refine blk_drew ?_ | refine blk_alloc ?_ _)); refine blk_far ?_ NB322_323.out _; (with_reducible repeat (first | refine blk_drewN ?_ _ | refine blk_drew ?_ | refine blk_alloc ?_ _)); refine blk_far ?_ NB322_323.out _; (with_reducible repeat (first | refine blk_drewN ?_ _ | refine blk_drew ?_ | refine blk_alloc ?_ _)); exact BK322.out⟩, ⟨by (with_reducible repeat (first | refine blk_drewN ?_ _ | refine blk_drew ?_ | refine blk_alloc ?_ _)); refine blk_put (cs := #[.bool false, .int .u64 0, .int .u64 0, .int .u64 0, .int .u64 0]) ?_ 4 _ rfl; (with_reducible repeat (first | refine blk_drewN ?_ _ | refine blk_drew ?_ | refine blk_alloc ?_ _)); refine blk_put (cs := #[.bool false, .int .u64 0, .int .u64 0, .int .u64 0, .int .u64 0]) ?_ 3 _ rfl; (with_reducible repeat (first | refine blk_drewN ?_ _ | refine blk_drew ?_ | refine blk_alloc ?_ _)); refine blk_put (cs := #[.bool false, .int .u64 0, .int .u64 0, .int .u64 0, .int .u64 0]) ?_ 2 _ rfl; (with_reducible repeat (first | refine blk_drewN ?_ _ | refine blk_drew ?_ | refine blk_alloc ?_ _)); refine blk_put (cs := #[.bool false, .int .u64 0, .int .u64 0, .int .u64 0, .int .u64 0]) ?_ 1 _ rfl; (with_reducible repeat (first | refine blk_drewN ?_ _ | refine blk_drew ?_ | refine blk_alloc ?_ _)); refine blk_put (cs := #[.bool false, .int .u64 0, .int .u64 0, .int .u64 0, .int .u64 0]) ?_ 0 _ rfl; (with_reducible repeat (first | refine blk_drewN ?_ _ | refine blk_drew ?_ | refine blk_alloc ?_ _)); exact BK323.out⟩, ⟨zw5_ HB GE296 GE297 GE298 GE322 GE323⟩⟩
                   case round =>
                    clear H'
                    try clear c1
                    try clear p2
                    try clear c3
                    try clear p3
                    try clear q3
                    try clear hx3
                    try clear qi3
                    try clear c4
                    try clear c5
                    try clear c6
                    try clear p6
                    try clear c7
                    try clear c8
                    try clear p30
                    try clear q30
                    try clear hx30
                    try clear qi30
                    try clear c33
                    try clear c34
                    try clear c43
                    try clear c43b0
                    try clear c43b1
                    try clear c44
                    try clear c44b0
                    try clear c44b1
                    try clear c45
                    try clear c46
                    try clear c54
                    try clear c55
                    try clear c56
                    try clear c58
                    try clear c58b0
                    try clear c58b1
                    try clear c59
                    try clear c59b0
                    try clear c59b1
                    try clear c60
                    try clear c60b0
                    try clear c60b1
                    try clear c61
                    try clear c61b0
                    try clear c61b1
                    try clear c62
                    try clear c62b0
                    try clear c62b1
                    try clear c64
                    try clear p64
                    try clear c76
                    try clear c77
                    try clear c78
                    try clear c81
                    try clear c81b0
                    try clear c82
                    try clear c82b0
                    try clear c84
                    try clear c85
                    try clear c86
                    try clear c87
                    try clear hcz57_0
                    try clear hcz57_1
                    try clear hcz79_0
                    try clear hcz79_1
                    try clear hcz88_0
                    try clear hcz88_1
                    try clear hcz88_2
                    try clear hcz88_3
                    try clear hcz88_4
                    try clear hfz57_0
                    try clear hfz57_1
                    try clear hfz79_0
                    try clear hfz79_1
                    try clear hfz88_0
                    try clear hfz88_1
                    try clear hfz88_2
                    try clear hfz88_3
                    try clear hfz88_4
                    try clear hx305_0
                    try clear hx306_0
                    try clear hx307_0
                    try clear hx308_0
                    try clear p2
                    try clear p3
                    try clear p30
                    try clear p305
                    try clear p306
                    try clear p307
                    try clear p308
                    try clear p6
                    try clear p64
                    try clear q3
                    try clear q30
                    try clear q305
                    try clear q306
                    try clear q307
                    try clear q308
                    obtain ⟨x17_5, x324000_5, x324001_5, x324002_5, x324003_5, x324004_5, rfl, HA, HK5, HO_323000, HO_323001, BK296, BK297, BK298, BK322, BK323, HB⟩ := hrel
                    cases gk with
                    | zero => exact absurd HA.out (by simp [carouselref5_Row.l2])
                    | succ k5 =>
                     have H := HA.out
                     clear HA
                     simp only [carouselref5_Row.l2] at H
                     by_cases c89 : x17_5 < (rd l0_0 0)
                     ·rw [if_pos c89] at H
                      have c89b0 : decide (x17_5 < (rd l0_0 0)) = true := decide_eq_true c89
                      clear c89
                      have H' := Aside0.mk H
                      clear H
                      go_wp2
                      go_loopg [18] k5 (fun kq v18 w' => ∃ (x18_6 : Int) (x324000_6 : Bool) (x324001_6 : Int) (x324002_6 : Int) (x324003_6 : Int) (x324004_6 : Int), v18 = .int .i64 x18_6 ∧ Aside0 (carouselref5_Row.l3 kq a2 (rd l0_0 0) (rd l0_0 1) (rd l1_0 0) (rd l1_0 2) (wrap64 ((wrap64 (Int.tdiv (wrap64 ((rd l0_0 1) - (rd l1_0 2))) a2)) + 1)) x14_3 x15_4 x17_5 x18_6 l0_0 l0_1 l1_0 l1_1 t316 x323001_4 x324000_6 x324001_6 x324002_6 x324003_6 x324004_6 = some (r1, r2, r3)) ∧ Aside0 (kq ≤ k5) ∧ Aside0 (Kd.R (Kd.int .i64) 3 w' w.heap.size (fun _ => True) (.slice Ao75 t316.length co75) t316) ∧ Aside0 (Kd.R (Kd.int .i64) 33 w' w.heap.size (fun _ => True) u323001 x323001_4) ∧ Aside0 (w'.heap[gb296]? = some (.cells #[(.slice (some ad305) l0_0.length c0_0), (.slice A0_1 l0_1.length c0_1)] 25 (0, 0))) ∧ Aside0 (w'.heap[gb297]? = some (.cells #[(.slice (some ad307) l1_0.length c1_0), (.slice A1_1 l1_1.length c1_1)] 25 (0, 0))) ∧ Aside0 (w'.heap[gb298]? = some (.cells #[(.slice none 0 0), (.slice none 0 0)] 25 (0, 0))) ∧ Aside0 (w'.heap[gb322]? = some (.cells #[(.slice Ao75 t316.length co75), u323001] 25 (0, 0))) ∧ Aside0 (w'.heap[gb323]? = some (.cells #[.bool x324000_6, .int .u64 x324001_6, .int .u64 x324002_6, .int .u64 x324003_6, .int .u64 x324004_6] 61 (0, 0))) ∧ Aside0 (Below w.heap.size w w'))
                      case atStart => exact ⟨(0), (x324000_5), (x324001_5), (x324002_5), (x324003_5), (x324004_5), (by first | rfl | (simp; done) | (simp [*]; done)), H', ⟨Nat.le_refl _⟩, ⟨zr_ HO_323000.out⟩, ⟨zr_ HO_323001.out⟩, ⟨zb_ BK296⟩, ⟨zb_ BK297⟩, ⟨zb_ BK298⟩, ⟨zb_ BK322⟩, ⟨zb_ BK323⟩, ⟨zw5_ HB GE296 GE297 GE298 GE322 GE323⟩⟩
                      case round =>
                       clear H'
                       try clear c1
                       try clear p2
                       try clear c3
                       try clear p3
                       try clear q3
                       try clear hx3
                       try clear qi3
                       try clear c4
                       try clear c5
                       try clear c6
                       try clear p6
                       try clear c7
                       try clear c8
                       try clear p30
                       try clear q30
                       try clear hx30
                       try clear qi30
                       try clear c33
                       try clear c34
                       try clear c43
                       try clear c43b0
                       try clear c43b1
                       try clear c44
                       try clear c44b0
                       try clear c44b1
                       try clear c45
                       try clear c46
                       try clear c54
                       try clear c55
                       try clear c56
                       try clear c58
                       try clear c58b0
                       try clear c58b1
                       try clear c59
                       try clear c59b0
                       try clear c59b1
                       try clear c60
                       try clear c60b0
                       try clear c60b1
                       try clear c61
                       try clear c61b0
                       try clear c61b1
                       try clear c62
                       try clear c62b0
                       try clear c62b1
                       try clear c64
                       try clear p64
                       try clear c76
                       try clear c77
                       try clear c78
                       try clear c81
                       try clear c81b0
                       try clear c82
                       try clear c82b0
                       try clear c84
                       try clear c85
                       try clear c86
                       try clear c87
                       try clear c89
                       try clear c89b0
                       try clear hcz57_0
                       try clear hcz57_1
                       try clear hcz79_0
                       try clear hcz79_1
                       try clear hcz88_0
                       try clear hcz88_1
                       try clear hcz88_2
                       try clear hcz88_3
                       try clear hcz88_4
                       try clear hfz57_0
                       try clear hfz57_1
                       try clear hfz79_0
                       try clear hfz79_1
                       try clear hfz88_0
                       try clear hfz88_1
                       try clear hfz88_2
                       try clear hfz88_3
                       try clear hfz88_4
                       try clear hx305_0
                       try clear hx306_0
                       try clear hx307_0
                       try clear hx308_0
                       try clear p2
                       try clear p3
                       try clear p30
                       try clear p305
                       try clear p306
                       try clear p307
                       try clear p308
                       try clear p6
                       try clear p64
                       try clear q3
                       try clear q30
                       try clear q305
                       try clear q306
                       try clear q307
                       try clear q308
                       obtain ⟨x18_6, x324000_6, x324001_6, x324002_6, x324003_6, x324004_6, rfl, HA, HK6, HO_323000, HO_323001, BK296, BK297, BK298, BK322, BK323, HB⟩ := hrel
                       cases gk with
                       | zero => exact absurd HA.out (by simp [carouselref5_Row.l3])
                       | succ k6 =>
                        have H := HA.out
                        clear HA
                        simp only [carouselref5_Row.l3] at H
                        by_cases c90 : x18_6 < (rd l1_0 2)
                        ·rw [if_pos c90] at H
                         have c90b0 : decide (x18_6 < (rd l1_0 2)) = true := decide_eq_true c90
                         clear c90
                         obtain ⟨ji91, hji91⟩ : ∃ j_ : Int, (wrap64 ((wrap64 ((wrap64 (x17_5 * (rd l0_0 1))) + (wrap64 (x15_4 * a2)))) + x18_6)) = j_ := ⟨_, rfl⟩
                         replace H : (if 0 ≤ (ji91) then (if (ji91) < (l0_1.length : Int) then (if 0 ≤ (wrap64 ((wrap64 ((wrap64 ((wrap64 (x14_3 * (rd l0_0 0))) + x17_5)) * (rd l1_0 2))) + x18_6)) then (if (wrap64 ((wrap64 ((wrap64 ((wrap64 (x14_3 * (rd l0_0 0))) + x17_5)) * (rd l1_0 2))) + x18_6)) < (l1_1.length : Int) then ((carouselref1_Times.f (rd l0_1 (ji91)) (rd l1_1 (wrap64 ((wrap64 ((wrap64 ((wrap64 (x14_3 * (rd l0_0 0))) + x17_5)) * (rd l1_0 2))) + x18_6)))).bind fun bt333 => ((carouselref1_Plus.f x324000_6 x324001_6 x324002_6 x324003_6 x324004_6 bt333.1 bt333.2.1 bt333.2.2.1 bt333.2.2.2.1 bt333.2.2.2.2).bind fun bt338 => (carouselref5_Row.l3 k6 a2 (rd l0_0 0) (rd l0_0 1) (rd l1_0 0) (rd l1_0 2) (wrap64 ((wrap64 (Int.tdiv (wrap64 ((rd l0_0 1) - (rd l1_0 2))) a2)) + 1)) x14_3 x15_4 x17_5 (wrap64 (x18_6 + 1)) l0_0 l0_1 l1_0 l1_1 t316 x323001_4 bt338.1 bt338.2.1 bt338.2.2.1 bt338.2.2.2.1 bt338.2.2.2.2))) else (none)) else (none)) else (none)) else (none)) = some (r1, r2, r3) := by first | (rw [hji91] at H; exact H) | (simp only [hji91] at H ⊢; exact H)
                         have hji91w : (IntKind.i64.wrap ((wrap64 ((wrap64 (x17_5 * (rd l0_0 1))) + (wrap64 (x15_4 * a2)))) + x18_6)) = ji91 := (i64_w _).trans hji91
                         by_cases c92 : 0 ≤ (ji91)
                         ·rw [if_pos c92] at H
                          have c92b0 : decide (0 ≤ (ji91)) = true := decide_eq_true c92
                          clear c92
                          by_cases c93 : (ji91) < (l0_1.length : Int)
                          ·rw [if_pos c93] at H
                           have c93b0 : decide ((ji91) < (l0_1.length : Int)) = true := decide_eq_true c93
                           clear c93
                           obtain ⟨ji94, hji94⟩ : ∃ j_ : Int, (wrap64 ((wrap64 ((wrap64 ((wrap64 (x14_3 * (rd l0_0 0))) + x17_5)) * (rd l1_0 2))) + x18_6)) = j_ := ⟨_, rfl⟩
                           replace H : (if 0 ≤ (ji94) then (if (ji94) < (l1_1.length : Int) then ((carouselref1_Times.f (rd l0_1 (ji91)) (rd l1_1 (ji94))).bind fun bt333 => ((carouselref1_Plus.f x324000_6 x324001_6 x324002_6 x324003_6 x324004_6 bt333.1 bt333.2.1 bt333.2.2.1 bt333.2.2.2.1 bt333.2.2.2.2).bind fun bt338 => (carouselref5_Row.l3 k6 a2 (rd l0_0 0) (rd l0_0 1) (rd l1_0 0) (rd l1_0 2) (wrap64 ((wrap64 (Int.tdiv (wrap64 ((rd l0_0 1) - (rd l1_0 2))) a2)) + 1)) x14_3 x15_4 x17_5 (wrap64 (x18_6 + 1)) l0_0 l0_1 l1_0 l1_1 t316 x323001_4 bt338.1 bt338.2.1 bt338.2.2.1 bt338.2.2.2.1 bt338.2.2.2.2))) else (none)) else (none)) = some (r1, r2, r3) := by first | (rw [hji94] at H; exact H) | (simp only [hji94] at H ⊢; exact H)
                           have hji94w : (IntKind.i64.wrap ((wrap64 ((wrap64 ((wrap64 (x14_3 * (rd l0_0 0))) + x17_5)) * (rd l1_0 2))) + x18_6)) = ji94 := (i64_w _).trans hji94
                           by_cases c95 : 0 ≤ (ji94)
                           ·rw [if_pos c95] at H
                            have c95b0 : decide (0 ≤ (ji94)) = true := decide_eq_true c95
                            clear c95
                            by_cases c96 : (ji94) < (l1_1.length : Int)
                            ·rw [if_pos c96] at H
                             have c96b0 : decide ((ji94) < (l1_1.length : Int)) = true := decide_eq_true c96
                             clear c96
                             replace H := Option.bind_eq_some_iff.mp H
                             obtain ⟨⟨t333, t334, t335, t336, t337⟩, A970, H⟩ := H
                             (try dsimp only at H)
                             have A97 := Aside0.mk A970
                             clear A970
                             replace H := Option.bind_eq_some_iff.mp H
                             obtain ⟨⟨t338, t339, t340, t341, t342⟩, A980, H⟩ := H
                             (try dsimp only at H)
                             have A98 := Aside0.mk A980
                             clear A980
                             have H' := Aside0.mk H
                             clear H
                             try go_wp2
                             replace HO_323000 := Aside0.mk (Kd.R_drew HO_323000.out)
                             replace HO_323001 := Aside0.mk (Kd.R_drew HO_323001.out)
                             replace BK296 := Aside0.mk (blk_drew BK296.out)
                             replace BK297 := Aside0.mk (blk_drew BK297.out)
                             replace BK298 := Aside0.mk (blk_drew BK298.out)
                             replace BK322 := Aside0.mk (blk_drew BK322.out)
                             replace BK323 := Aside0.mk (blk_drew BK323.out)
                             replace HB := Aside0.mk (below_drew1 HB.out)
                             have p331 : 0 ≤ ((ji91) : Int) := of_decide_eq_true (by first | (with_reducible assumption) | assumption)
                             have q331 : (ji91) < (l0_1.length : Int) := of_decide_eq_true (by first | (with_reducible assumption) | assumption)
                             obtain ⟨ad331, e331, hx331_0⟩ := Kd.at_int HR0_1.out (ji91) p331 q331
                             have hw331_0 := hx331_0
                             cases e331
                             replace hx331_0 := (HB.out.cell (World.block_lt_of_cell? w _ hx331_0)).trans hx331_0
                             replace p331 := eq_true p331
                             replace q331 := eq_true q331
                             have p332 : 0 ≤ ((ji94) : Int) := of_decide_eq_true (by first | (with_reducible assumption) | assumption)
                             have q332 : (ji94) < (l1_1.length : Int) := of_decide_eq_true (by first | (with_reducible assumption) | assumption)
                             obtain ⟨ad332, e332, hx332_0⟩ := Kd.at_int HR1_1.out (ji94) p332 q332
                             have hw332_0 := hx332_0
                             cases e332
                             replace hx332_0 := (HB.out.cell (World.block_lt_of_cell? w _ hx332_0)).trans hx332_0
                             replace p332 := eq_true p332
                             replace q332 := eq_true q332
                             refine start_ (n := 30) (S := fun w' => w'.cell? ⟨gb323, 0, none⟩ = some (.bool x324000_6) ∧ w'.cell? ⟨gb323, 1, none⟩ = some (.int .u64 x324001_6) ∧ w'.cell? ⟨gb323, 2, none⟩ = some (.int .u64 x324002_6) ∧ w'.cell? ⟨gb323, 3, none⟩ = some (.int .u64 x324003_6) ∧ w'.cell? ⟨gb323, 4, none⟩ = some (.int .u64 x324004_6) ∧ w'.cell? ⟨gb296, 0, none⟩ = some (.slice (some ad305) l0_0.length c0_0) ∧ w'.cell? ⟨gb296, 1, none⟩ = some (.slice (some ad331) l0_1.length c0_1) ∧ w'.cell? ⟨gb297, 0, none⟩ = some (.slice (some ad307) l1_0.length c1_0) ∧ w'.cell? ⟨gb297, 1, none⟩ = some (.slice (some ad332) l1_1.length c1_1) ∧ w'.cell? (ad331.add ((ji91)).toNat) = some (.int .i64 (rd l0_1 (ji91))) ∧ w'.cell? (ad332.add ((ji94)).toNat) = some (.int .i64 (rd l1_1 (ji94)))) (ds := [29]) #[false, false, false, false, false, false, false, false, false, false, false, false, false, false, false, false, false, false, false, false, false, false, false, false, false, false, false, false, false, false] (by kernel_rfl) rfl rfl ⟨(blk_cell BK323.out 0).trans rfl, (blk_cell BK323.out 1).trans rfl, (blk_cell BK323.out 2).trans rfl, (blk_cell BK323.out 3).trans rfl, (blk_cell BK323.out 4).trans rfl, (blk_cell BK296.out 0).trans rfl, (blk_cell BK296.out 1).trans rfl, (blk_cell BK297.out 0).trans rfl, (blk_cell BK297.out 1).trans rfl, ((HB.out.cell (World.block_lt_of_cell? w _ hw331_0)).trans hw331_0), ((HB.out.cell (World.block_lt_of_cell? w _ hw332_0)).trans hw332_0)⟩ (fun hHeld => ?_); refine with_tabW carouselref5_Row.tab23 carouselref5_Row.bits23 (fun HT_ HW_ => ?_)
                             generalize wr.drew = w99 at HO_323000 HO_323001 BK296 BK297 BK298 BK322 BK323 HB hx331_0 hx332_0 hHeld ⊢
                             refine zp_ 1 (some 123) (h := ?_)
                             refine zp_ 3 (some 125) (h := ?_)
                             refine zp_ 4 (some 126) (h := ?_)
                             refine zp_ 5 (some 127) (h := ?_)
                             refine zp_ 6 (some 128) (h := ?_)
                             refine zp_ 7 (some 129) (h := ?_)
                             refine zp_ 8 (some 130) (h := ?_)
                             refine zp_ 9 (some 131) (h := ?_)
                             refine zp_ 10 (some 132) (h := ?_)
                             refine zp_ 11 (some 133) (h := ?_)
                             refine zp_ 14 (some 136) (h := ?_)
                             refine zp_ 16 (some 138) (h := ?_)
                             refine zp_ 17 (some 139) (h := ?_)
                             refine zp_ 18 (some 140) (h := ?_)
                             refine zp_ 19 (some 141) (h := ?_)
                             refine zp_ 20 (some 142) (h := ?_)
                             refine zp_ 21 (some 143) (h := ?_)
                             refine zp_ 22 (some 144) (h := ?_)
                             refine zp_ 23 (some 145) (h := ?_)
                             refine zp_ 24 (some 146) (h := ?_)
                             refine zt_ 0 (some 122) (hr := by rintro w' ⟨s0, s1, s2, s3, s4, s5, s6, s7, s8, s9, s10⟩; go_simp; with_reducible rfl) (h := ?_)
                             refine zt_ 2 (some 124) (hr := by rintro w' ⟨s0, s1, s2, s3, s4, s5, s6, s7, s8, s9, s10⟩; go_simp; with_reducible rfl) (h := ?_)
                             refine zp_ 12 (some 134) (h := ?_)
                             refine zt_ 13 (some 135) (hr := by rintro w' ⟨s0, s1, s2, s3, s4, s5, s6, s7, s8, s9, s10⟩; go_simp; with_reducible rfl) (h := ?_)
                             refine zt_ 15 (some 137) (hr := by rintro w' ⟨s0, s1, s2, s3, s4, s5, s6, s7, s8, s9, s10⟩; go_simp; with_reducible rfl) (h := ?_)
                             refine zp_ 25 (some 147) (h := ?_)
                             refine zt_ 26 (some 148) (hr := by rintro w' ⟨s0, s1, s2, s3, s4, s5, s6, s7, s8, s9, s10⟩; go_simp; with_reducible rfl) (h := ?_)
                             refine one_ (i := 27) (N := some 149) #[true, true, true, true, true, true, true, true, true, true, true, true, true, true, true, true, true, true, true, true, true, true, true, true, true, true, true, true, false, false] rfl rfl (one_of HT_.out (by kernel_rfl)) (by decide) (fun K hK => ?_)
                             refine goes_ Try.func36 (by kernel_rfl) rfl #[.int .i64 (rd l0_1 (ji91)), .int .i64 (rd l1_1 (ji94))] (by rfl) rfl rfl (by (try simp only [List.map_toArray, List.map_cons, List.map_nil]); first | done | (simp only [hji91, hji94]; rfl) | rfl | (simp only [List.length_drop, List.length_take]; rfl)) ?_
                             with_reducible refine (carouselref1_Times.calls (rd l0_1 (ji91)) (rd l1_1 (ji94)) t333 t334 t335 t336 t337 _ A97.out).mono ?_
                             rintro e w100 ⟨rfl, hb⟩
                             refine ⟨_, rfl, ?_⟩
                             replace HO_323000 := Aside0.mk (Kd.R_below (zr_ HO_323000.out) hb)
                             replace HO_323001 := Aside0.mk (Kd.R_below (zr_ HO_323001.out) hb)
                             replace BK296 := Aside0.mk (zl_ BK296 hb)
                             replace BK297 := Aside0.mk (zl_ BK297 hb)
                             replace BK298 := Aside0.mk (zl_ BK298 hb)
                             replace BK322 := Aside0.mk (zl_ BK322 hb)
                             replace BK323 := Aside0.mk (zl_ BK323 hb)
                             replace HB := Aside0.mk (below_step (zw5_ HB GE296 GE297 GE298 GE322 GE323) hb)
                             (try clear hb)
                             (try clear hb2)
                             (try clear hk)
                             (try clear hi)
                             refine hK.out _ _ ⟨(blk_cell BK323.out 0).trans rfl, (blk_cell BK323.out 1).trans rfl, (blk_cell BK323.out 2).trans rfl, (blk_cell BK323.out 3).trans rfl, (blk_cell BK323.out 4).trans rfl, (blk_cell BK296.out 0).trans rfl, (blk_cell BK296.out 1).trans rfl, (blk_cell BK297.out 0).trans rfl, (blk_cell BK297.out 1).trans rfl, ((HB.out.cell (World.block_lt_of_cell? w _ hw331_0)).trans hw331_0), ((HB.out.cell (World.block_lt_of_cell? w _ hw332_0)).trans hw332_0)⟩ (fun hHeld => ?_)
                             clear hK K
                             refine zq_ (some 149) (h := ?_)
                             refine one_ (i := 28) (N := some 150) #[true, true, true, true, true, true, true, true, true, true, true, true, true, true, true, true, true, true, true, true, true, true, true, true, true, true, true, true, true, false] rfl rfl (one_of HT_.out (by kernel_rfl)) (by decide) (fun K hK => ?_)
                             refine goes_ Try.func35 (by kernel_rfl) rfl #[.agg #[.bool x324000_6, .int .u64 x324001_6, .int .u64 x324002_6, .int .u64 x324003_6, .int .u64 x324004_6], .agg #[.bool t333, .int .u64 t334, .int .u64 t335, .int .u64 t336, .int .u64 t337]] (by rfl) rfl rfl (by (try simp only [List.map_toArray, List.map_cons, List.map_nil]); first | done | rfl | (simp only [List.length_drop, List.length_take]; rfl)) ?_
                             with_reducible refine (carouselref1_Plus.calls x324000_6 x324001_6 x324002_6 x324003_6 x324004_6 t333 t334 t335 t336 t337 t338 t339 t340 t341 t342 _ A98.out).mono ?_
                             rintro e w101 ⟨rfl, hb⟩
                             refine ⟨_, rfl, ?_⟩
                             replace HO_323000 := Aside0.mk (Kd.R_below (zr_ HO_323000.out) hb)
                             replace HO_323001 := Aside0.mk (Kd.R_below (zr_ HO_323001.out) hb)
                             replace BK296 := Aside0.mk (zl_ BK296 hb)
                             replace BK297 := Aside0.mk (zl_ BK297 hb)
                             replace BK298 := Aside0.mk (zl_ BK298 hb)
                             replace BK322 := Aside0.mk (zl_ BK322 hb)
                             replace BK323 := Aside0.mk (zl_ BK323 hb)
                             replace HB := Aside0.mk (below_step (zw5_ HB GE296 GE297 GE298 GE322 GE323) hb)
                             (try clear hb)
                             (try clear hb2)
                             (try clear hk)
                             (try clear hi)
                             refine hK.out _ _ ⟨(blk_cell BK323.out 0).trans rfl, (blk_cell BK323.out 1).trans rfl, (blk_cell BK323.out 2).trans rfl, (blk_cell BK323.out 3).trans rfl, (blk_cell BK323.out 4).trans rfl, (blk_cell BK296.out 0).trans rfl, (blk_cell BK296.out 1).trans rfl, (blk_cell BK297.out 0).trans rfl, (blk_cell BK297.out 1).trans rfl, ((HB.out.cell (World.block_lt_of_cell? w _ hw331_0)).trans hw331_0), ((HB.out.cell (World.block_lt_of_cell? w _ hw332_0)).trans hw332_0)⟩ (fun hHeld => ?_)
                             clear hK K
                             refine zq_ (some 150) (h := ?_)
                             refine last_ (i := 29) (N := none) #[true, true, true, true, true, true, true, true, true, true, true, true, true, true, true, true, true, true, true, true, true, true, true, true, true, true, true, true, true, true] rfl rfl (one_of HT_.out (by kernel_rfl)) (by decide) (fun K hK => ?_)
                             have hs102 := zx_ (v := .bool x324000_6) BK323 0
                             have hfs102 := blk_frozen BK323.out 0
                             have hns102_0 := NB296_323.out
                             have hns102_1 := NB297_323.out
                             have hns102_2 := NB298_323.out
                             have hns102_3 := NB322_323.out
                             have hms102_0 := NB323_296.out
                             have hms102_1 := NB323_297.out
                             have hms102_2 := NB323_298.out
                             have hms102_3 := NB323_322.out
                             have hs103 := zx_ (v := .int .u64 x324001_6) BK323 1
                             have hfs103 := blk_frozen BK323.out 1
                             have hns103_0 := NB296_323.out
                             have hns103_1 := NB297_323.out
                             have hns103_2 := NB298_323.out
                             have hns103_3 := NB322_323.out
                             have hms103_0 := NB323_296.out
                             have hms103_1 := NB323_297.out
                             have hms103_2 := NB323_298.out
                             have hms103_3 := NB323_322.out
                             have hs104 := zx_ (v := .int .u64 x324002_6) BK323 2
                             have hfs104 := blk_frozen BK323.out 2
                             have hns104_0 := NB296_323.out
                             have hns104_1 := NB297_323.out
                             have hns104_2 := NB298_323.out
                             have hns104_3 := NB322_323.out
                             have hms104_0 := NB323_296.out
                             have hms104_1 := NB323_297.out
                             have hms104_2 := NB323_298.out
                             have hms104_3 := NB323_322.out
                             have hs105 := zx_ (v := .int .u64 x324003_6) BK323 3
                             have hfs105 := blk_frozen BK323.out 3
                             have hns105_0 := NB296_323.out
                             have hns105_1 := NB297_323.out
                             have hns105_2 := NB298_323.out
                             have hns105_3 := NB322_323.out
                             have hms105_0 := NB323_296.out
                             have hms105_1 := NB323_297.out
                             have hms105_2 := NB323_298.out
                             have hms105_3 := NB323_322.out
                             have hs106 := zx_ (v := .int .u64 x324004_6) BK323 4
                             have hfs106 := blk_frozen BK323.out 4
                             have hns106_0 := NB296_323.out
                             have hns106_1 := NB297_323.out
                             have hns106_2 := NB298_323.out
                             have hns106_3 := NB322_323.out
                             have hms106_0 := NB323_296.out
                             have hms106_1 := NB323_297.out
                             have hms106_2 := NB323_298.out
                             have hms106_3 := NB323_322.out
                             refine skip_ (w1 := ?_) (by rfl) rfl ?_ ?_
                             rotate_left
                             ·go_simp
                              rfl
                             refine hK.out _ _ ?_
                             clear hK K
                             refine done_ (done_of HT_.out (by kernel_rfl)) ?_
                             try go_wp2
                             go_roundg k6
                             case measure => have := HJ3.out; have := HJ41.out; have := HK3.out; have := HK4.out; have := HK5.out; have := HK6.out; omega
                             case rel => exact ⟨(wrap64 (x18_6 + 1)), (t338), (t339), (t340), (t341), (t342), (by first | rfl | (simp; done) | (simp [*]; done)), H', ⟨by have := HJ3.out; have := HJ41.out; have := HK3.out; have := HK4.out; have := HK5.out; have := HK6.out; omega⟩, ⟨zr_ (Kd.R_mono (Kd.R_far (p := ⟨gb323, 4, none⟩) (Kd.R_far (p := ⟨gb323, 3, none⟩) (Kd.R_far (p := ⟨gb323, 2, none⟩) (Kd.R_far (p := ⟨gb323, 1, none⟩) (Kd.R_far (p := ⟨gb323, 0, none⟩) (Kd.R_types HO_323000.out BK323.out (by decide)) (fun _ hk => hk.2) (.bool t338)) (fun _ hk => hk.2) (.int .u64 t339)) (fun _ hk => hk.2) (.int .u64 t340)) (fun _ hk => hk.2) (.int .u64 t341)) (fun _ hk => hk.2) (.int .u64 t342)) (fun _ hk => trivial))⟩, ⟨zr_ (Kd.R_mono (Kd.R_far (p := ⟨gb323, 4, none⟩) (Kd.R_far (p := ⟨gb323, 3, none⟩) (Kd.R_far (p := ⟨gb323, 2, none⟩) (Kd.R_far (p := ⟨gb323, 1, none⟩) (Kd.R_far (p := ⟨gb323, 0, none⟩) (Kd.R_types HO_323001.out BK323.out (by decide)) (fun _ hk => hk.2) (.bool t338)) (fun _ hk => hk.2) (.int .u64 t339)) (fun _ hk => hk.2) (.int .u64 t340)) (fun _ hk => hk.2) (.int .u64 t341)) (fun _ hk => hk.2) (.int .u64 t342)) (fun _ hk => trivial))⟩, ⟨by (with_reducible repeat (first | refine blk_drewN ?_ _ | refine blk_drew ?_ | refine blk_alloc ?_ _)); refine blk_far ?_ NB296_323.out _; (with_reducible repeat (first | refine blk_drewN ?_ _ | refine blk_drew ?_ | refine blk_alloc ?_ _)); refine blk_far ?_ NB296_323.out _; (with_reducible repeat (first | refine blk_drewN ?_ _ | refine blk_drew ?_ | refine blk_alloc ?_ _)); refine blk_far ?_ NB296_323.out _; (with_reducible repeat (first | refine blk_drewN ?_ _ | refine blk_drew ?_ | refine blk_alloc ?_ _)); refine blk_far ?_ NB296_323.out _; (with_reducible repeat (first | refine blk_drewN ?_ _ | refine blk_drew ?_ | refine blk_alloc ?_ _)); refine blk_far ?_ NB296_323.out _; (with_reducible repeat (first | refine blk_drewN ?_ _ | refine blk_drew ?_ | refine blk_alloc ?_ _)); exact BK296.out⟩, ⟨by (with_reducible repeat (first | refine blk_drewN ?_ _ | refine blk_drew ?_ | refine blk_alloc ?_ _)); refine blk_far ?_ NB297_323.out _; (with_reducible repeat (first | refine blk_drewN ?_ _ | refine blk_drew ?_ | refine blk_alloc ?_ _)); refine blk_far ?_ NB297_323.out _; (with_reducible repeat (first | refine blk_drewN ?_ _ | refine blk_drew ?_ | refine blk_alloc ?_ _)); refine blk_far ?_ NB297_323.out _; (with_reducible repeat (first | refine blk_drewN ?_ _ | refine blk_drew ?_ | refine blk_alloc ?_ _)); refine blk_far ?_ NB297_323.out _; (with_reducible repeat (first | refine blk_drewN ?_ _ | refine blk_drew ?_ | refine blk_alloc ?_ _)); refine blk_far ?_ NB297_323.out _; (with_reducible repeat (first | refine blk_drewN ?_ _ | refine blk_drew ?_ | refine blk_alloc ?_ _)); exact BK297.out⟩, ⟨by (with_reducible repeat (first | refine blk_drewN ?_ _ | refine blk_drew ?_ | refine blk_alloc ?_ _)); refine blk_far ?_ NB298_323.out _; (with_reducible repeat (first | refine blk_drewN ?_ _ | refine blk_drew ?_ | refine blk_alloc ?_ _)); refine blk_far ?_ NB298_323.out _; (with_reducible repeat (first | refine blk_drewN ?_ _ | refine blk_drew ?_ | refine blk_alloc ?_ _)); refine blk_far ?_ NB298_323.out _; (with_reducible repeat (first | refine blk_drewN ?_ _ | refine blk_drew ?_ | refine blk_alloc ?_ _)); refine blk_far ?_ NB298_323.out _; (with_reducible repeat (first | refine blk_drewN ?_ _ | refine blk_drew ?_ | refine blk_alloc ?_ _)); refine blk_far ?_ NB298_323.out _; (with_reducible repeat (first | refine blk_drewN ?_ _ | refine blk_drew ?_ | refine blk_alloc ?_ _)); exact BK298.out⟩, ⟨by (with_reducible repeat (first | refine blk_drewN ?_ _ | refine blk_drew ?_ | refine blk_alloc ?_ _)); refine blk_far ?_ NB322_323.out _; (with_reducible repeat (first | refine blk_drewN ?_ _ | refine blk_drew ?_ | refine blk_alloc ?_ _)); refine blk_far ?_ NB322_323.out _; (with_reducible repeat (first | refine blk_drewN ?_ _ | refine blk_drew ?_ | refine blk_alloc ?_ _)); refine blk_far ?_ NB322_323.out _; (with_reducible repeat (first | refine blk_drewN ?_ _ | refine blk_drew ?_ | refine blk_alloc ?_ _)); refine blk_far ?_ NB322_323.out _; (with_reducible repeat (first | refine blk_drewN ?_ _ | refine blk_drew ?_ | refine blk_alloc ?_ _)); refine blk_far ?_ NB322_323.out _; (with_reducible repeat (first | refine blk_drewN ?_ _ | refine blk_drew ?_ | refine blk_alloc ?_ _)); exact BK322.out⟩, ⟨by (with_reducible repeat (first | refine blk_drewN ?_ _ | refine blk_drew ?_ | refine blk_alloc ?_ _)); refine blk_put (cs := #[.bool t338, .int .u64 t339, .int .u64 t340, .int .u64 t341, .int .u64 x324004_6]) ?_ 4 _ rfl; (with_reducible repeat (first | refine blk_drewN ?_ _ | refine blk_drew ?_ | refine blk_alloc ?_ _)); refine blk_put (cs := #[.bool t338, .int .u64 t339, .int .u64 t340, .int .u64 x324003_6, .int .u64 x324004_6]) ?_ 3 _ rfl; (with_reducible repeat (first | refine blk_drewN ?_ _ | refine blk_drew ?_ | refine blk_alloc ?_ _)); refine blk_put (cs := #[.bool t338, .int .u64 t339, .int .u64 x324002_6, .int .u64 x324003_6, .int .u64 x324004_6]) ?_ 2 _ rfl; (with_reducible repeat (first | refine blk_drewN ?_ _ | refine blk_drew ?_ | refine blk_alloc ?_ _)); refine blk_put (cs := #[.bool t338, .int .u64 x324001_6, .int .u64 x324002_6, .int .u64 x324003_6, .int .u64 x324004_6]) ?_ 1 _ rfl; (with_reducible repeat (first | refine blk_drewN ?_ _ | refine blk_drew ?_ | refine blk_alloc ?_ _)); refine blk_put (cs := #[.bool x324000_6, .int .u64 x324001_6, .int .u64 x324002_6, .int .u64 x324003_6, .int .u64 x324004_6]) ?_ 0 _ rfl; (with_reducible repeat (first | refine blk_drewN ?_ _ | refine blk_drew ?_ | refine blk_alloc ?_ _)); exact BK323.out⟩, ⟨zw5_ HB GE296 GE297 GE298 GE322 GE323⟩⟩
                            ·rw [if_neg c96] at H
                             exact absurd H (by simp)
                           ·rw [if_neg c95] at H
                            exact absurd H (by simp)
                          ·rw [if_neg c93] at H
                           exact absurd H (by simp)
                         ·rw [if_neg c92] at H
                          exact absurd H (by simp)
                        ·rw [if_neg c90] at H
                         have c90b0 : decide (x18_6 < (rd l1_0 2)) = false := decide_eq_false c90
                         clear c90
                         have H' := Aside0.mk H
                         clear H
                         go_wp2
                         go_roundg k6
                         case measure => have := HJ3.out; have := HJ41.out; have := HK3.out; have := HK4.out; have := HK5.out; have := HK6.out; omega
                         case rel => exact ⟨(wrap64 (x17_5 + 1)), (x324000_6), (x324001_6), (x324002_6), (x324003_6), (x324004_6), (by first | rfl | (simp; done) | (simp [*]; done)), H', ⟨by have := HJ3.out; have := HJ41.out; have := HK3.out; have := HK4.out; have := HK5.out; have := HK6.out; omega⟩, ⟨zr_ HO_323000.out⟩, ⟨zr_ HO_323001.out⟩, ⟨zb_ BK296⟩, ⟨zb_ BK297⟩, ⟨zb_ BK298⟩, ⟨zb_ BK322⟩, ⟨zb_ BK323⟩, ⟨zw5_ HB GE296 GE297 GE298 GE322 GE323⟩⟩
                     ·rw [if_neg c89] at H
                      have c89b0 : decide (x17_5 < (rd l0_0 0)) = false := decide_eq_false c89
                      clear c89
                      replace H := Option.bind_eq_some_iff.mp H
                      obtain ⟨⟨t324, t325, t326, t327, t328⟩, A1070, H⟩ := H
                      (try dsimp only at H)
                      have A107 := Aside0.mk A1070
                      clear A1070
                      replace H := Option.bind_eq_some_iff.mp H
                      obtain ⟨t329, A1080, H⟩ := H
                      (try dsimp only at H)
                      have A108 := Aside0.mk A1080
                      clear A1080
                      obtain ⟨ji109, hji109⟩ : ∃ j_ : Int, (wrap64 ((wrap64 (x14_3 * (wrap64 ((wrap64 (Int.tdiv (wrap64 ((rd l0_0 1) - (rd l1_0 2))) a2)) + 1)))) + x15_4)) = j_ := ⟨_, rfl⟩
                      replace H : (if 0 ≤ (ji109) then (if (ji109) < (x323001_4.length : Int) then (carouselref5_Row.l1 k5 a2 (rd l0_0 0) (rd l0_0 1) (rd l1_0 0) (rd l1_0 2) (wrap64 ((wrap64 (Int.tdiv (wrap64 ((rd l0_0 1) - (rd l1_0 2))) a2)) + 1)) x14_3 (wrap64 (x15_4 + 1)) l0_0 l0_1 l1_0 l1_1 t316 (x323001_4.set ((ji109) : Int).toNat t329)) else (none)) else (none)) = some (r1, r2, r3) := by first | (rw [hji109] at H; exact H) | (simp only [hji109] at H ⊢; exact H)
                      (try rw [hji109] at A107)
                      (try rw [hji109] at A108)
                      have hji109w : (IntKind.i64.wrap ((wrap64 (x14_3 * (wrap64 ((wrap64 (Int.tdiv (wrap64 ((rd l0_0 1) - (rd l1_0 2))) a2)) + 1)))) + x15_4)) = ji109 := (i64_w _).trans hji109
                      by_cases c110 : 0 ≤ (ji109)
                      ·rw [if_pos c110] at H
                       have c110b0 : decide (0 ≤ (ji109)) = true := decide_eq_true c110
                       clear c110
                       by_cases c111 : (ji109) < (x323001_4.length : Int)
                       ·rw [if_pos c111] at H
                        have c111b0 : decide ((ji109) < (x323001_4.length : Int)) = true := decide_eq_true c111
                        clear c111
                        obtain ⟨y330, hy330⟩ : ∃ y_ : List Int, y_ = (x323001_4.set ((ji109) : Int).toNat t329) := ⟨_, rfl⟩
                        replace H : (carouselref5_Row.l1 k5 a2 (rd l0_0 0) (rd l0_0 1) (rd l1_0 0) (rd l1_0 2) (wrap64 ((wrap64 (Int.tdiv (wrap64 ((rd l0_0 1) - (rd l1_0 2))) a2)) + 1)) x14_3 (wrap64 (x15_4 + 1)) l0_0 l0_1 l1_0 l1_1 t316 y330) = some (r1, r2, r3) := by first | (rw [hy330]; with_reducible exact H) | (have H2_ := (Option.bind_some _ _).symm.trans H; rw [hy330]; with_reducible exact H2_) | (have H2_ := (Option.bind_some _ _).symm.trans H; with_reducible exact H2_) | with_reducible exact H | (rw [hy330]; exact H) | exact H
                        have Ny330 := Aside0.mk hy330
                        clear hy330
                        have H' := Aside0.mk H
                        clear H
                        try go_wp2
                        replace HO_323000 := Aside0.mk (Kd.R_drew HO_323000.out)
                        replace HO_323001 := Aside0.mk (Kd.R_drew HO_323001.out)
                        replace BK296 := Aside0.mk (blk_drew BK296.out)
                        replace BK297 := Aside0.mk (blk_drew BK297.out)
                        replace BK298 := Aside0.mk (blk_drew BK298.out)
                        replace BK322 := Aside0.mk (blk_drew BK322.out)
                        replace BK323 := Aside0.mk (blk_drew BK323.out)
                        replace HB := Aside0.mk (below_drew1 HB.out)
                        refine start_ (n := 12) (S := fun w' => w'.cell? ⟨gb322, 0, none⟩ = some (.slice Ao75 t316.length co75) ∧ w'.cell? ⟨gb322, 1, none⟩ = some (u323001) ∧ w'.cell? ⟨gb323, 0, none⟩ = some (.bool x324000_5) ∧ w'.cell? ⟨gb323, 1, none⟩ = some (.int .u64 x324001_5) ∧ w'.cell? ⟨gb323, 2, none⟩ = some (.int .u64 x324002_5) ∧ w'.cell? ⟨gb323, 3, none⟩ = some (.int .u64 x324003_5) ∧ w'.cell? ⟨gb323, 4, none⟩ = some (.int .u64 x324004_5)) (ds := [11]) #[false, false, false, false, false, false, false, false, false, false, false, false] (by kernel_rfl) rfl rfl ⟨(blk_cell BK322.out 0).trans rfl, (blk_cell BK322.out 1).trans rfl, (blk_cell BK323.out 0).trans rfl, (blk_cell BK323.out 1).trans rfl, (blk_cell BK323.out 2).trans rfl, (blk_cell BK323.out 3).trans rfl, (blk_cell BK323.out 4).trans rfl⟩ (fun hHeld => ?_); refine with_tabW carouselref5_Row.tab24 carouselref5_Row.bits24 (fun HT_ HW_ => ?_)
                        generalize wr.drew = w113 at HO_323000 HO_323001 BK296 BK297 BK298 BK322 BK323 HB hHeld ⊢
                        refine zp_ 0 (some 151) (h := ?_)
                        refine zp_ 2 (some 153) (h := ?_)
                        refine zp_ 3 (some 154) (h := ?_)
                        refine zp_ 4 (some 155) (h := ?_)
                        refine zp_ 5 (some 156) (h := ?_)
                        refine zp_ 6 (some 157) (h := ?_)
                        refine zt_ 1 (some 152) (hr := by rintro w' ⟨s0, s1, s2, s3, s4, s5, s6⟩; go_simp; with_reducible rfl) (h := ?_)
                        refine zt_ 7 (some 158) (hr := by rintro w' ⟨s0, s1, s2, s3, s4, s5, s6⟩; go_simp; with_reducible rfl) (h := ?_)
                        refine one_ (i := 8) (N := some 159) #[true, true, true, true, true, true, true, true, true, false, false, false] rfl rfl (one_of HT_.out (by kernel_rfl)) (by decide) (fun K hK => ?_)
                        refine goes_ Try.func38 (by kernel_rfl) rfl #[.agg #[.bool x324000_5, .int .u64 x324001_5, .int .u64 x324002_5, .int .u64 x324003_5, .int .u64 x324004_5], .int .i64 32] (by rfl) rfl rfl (by (try simp only [List.map_toArray, List.map_cons, List.map_nil]); first | done | rfl | (simp only [List.length_drop, List.length_take]; rfl)) ?_
                        with_reducible refine (carouselref1_Halved.calls x324000_5 x324001_5 x324002_5 x324003_5 x324004_5 32 t324 t325 t326 t327 t328 _ A107.out).mono ?_
                        rintro e w114 ⟨rfl, hb⟩
                        refine ⟨_, rfl, ?_⟩
                        replace HO_323000 := Aside0.mk (Kd.R_below (zr_ HO_323000.out) hb)
                        replace HO_323001 := Aside0.mk (Kd.R_below (zr_ HO_323001.out) hb)
                        replace BK296 := Aside0.mk (zl_ BK296 hb)
                        replace BK297 := Aside0.mk (zl_ BK297 hb)
                        replace BK298 := Aside0.mk (zl_ BK298 hb)
                        replace BK322 := Aside0.mk (zl_ BK322 hb)
                        replace BK323 := Aside0.mk (zl_ BK323 hb)
                        replace HB := Aside0.mk (below_step (zw5_ HB GE296 GE297 GE298 GE322 GE323) hb)
                        (try clear hb)
                        (try clear hb2)
                        (try clear hk)
                        (try clear hi)
                        refine hK.out _ _ ⟨(blk_cell BK322.out 0).trans rfl, (blk_cell BK322.out 1).trans rfl, (blk_cell BK323.out 0).trans rfl, (blk_cell BK323.out 1).trans rfl, (blk_cell BK323.out 2).trans rfl, (blk_cell BK323.out 3).trans rfl, (blk_cell BK323.out 4).trans rfl⟩ (fun hHeld => ?_)
                        clear hK K
                        refine zq_ (some 159) (h := ?_)
                        refine one_ (i := 9) (N := some 160) #[true, true, true, true, true, true, true, true, true, true, false, false] rfl rfl (one_of HT_.out (by kernel_rfl)) (by decide) (fun K hK => ?_)
                        refine goes_ Try.func37 (by kernel_rfl) rfl #[.agg #[.bool t324, .int .u64 t325, .int .u64 t326, .int .u64 t327, .int .u64 t328]] (by rfl) rfl rfl (by (try simp only [List.map_toArray, List.map_cons, List.map_nil]); first | done | rfl | (simp only [List.length_drop, List.length_take]; rfl)) ?_
                        with_reducible refine (carouselref1_Held.calls k5 t324 t325 t326 t327 t328 t329 _ A108.out).mono ?_
                        rintro e w115 ⟨rfl, hb⟩
                        refine ⟨_, rfl, ?_⟩
                        replace HO_323000 := Aside0.mk (Kd.R_below (zr_ HO_323000.out) hb)
                        replace HO_323001 := Aside0.mk (Kd.R_below (zr_ HO_323001.out) hb)
                        replace BK296 := Aside0.mk (zl_ BK296 hb)
                        replace BK297 := Aside0.mk (zl_ BK297 hb)
                        replace BK298 := Aside0.mk (zl_ BK298 hb)
                        replace BK322 := Aside0.mk (zl_ BK322 hb)
                        replace BK323 := Aside0.mk (zl_ BK323 hb)
                        replace HB := Aside0.mk (below_step (zw5_ HB GE296 GE297 GE298 GE322 GE323) hb)
                        (try clear hb)
                        (try clear hb2)
                        (try clear hk)
                        (try clear hi)
                        have p112 : 0 ≤ ((ji109) : Int) := of_decide_eq_true (by first | (with_reducible assumption) | assumption)
                        have q112 : ((ji109) : Int) < ((x323001_4.length : Int) : Int) := of_decide_eq_true (by first | (with_reducible assumption) | assumption)
                        obtain ⟨go112, co112, eo112, gb112, gl112, cl112, HG112⟩ := Kd.R_form HO_323001.out (by omega)
                        (first | cases eo112 | (injection eo112 with ea_ en_ ec_; (first | subst ea_ | (injection ea_ with ea_; subst ea_)); subst ec_; clear en_))
                        have GB112 := Aside0.mk gb112
                        have GG112 := Aside0.mk HG112
                        clear gb112 gl112 HG112
                        obtain ⟨hx112_0, hf112_0⟩ := Kd.R_celln 0 HO_323001.out ((ji109) : Int) p112 q112
                        replace p112 := eq_true p112
                        replace q112 := eq_true q112
                        have HP116 := Kd.R_putn HO_323001.out ((ji109) : Int) t329
                        rw [← Ny330.out] at HP116
                        have HQ116 := Aside0.mk HP116
                        clear HP116
                        refine hK.out _ _ ⟨(blk_cell BK322.out 0).trans rfl, (blk_cell BK322.out 1).trans rfl, (blk_cell BK323.out 0).trans rfl, (blk_cell BK323.out 1).trans rfl, (blk_cell BK323.out 2).trans rfl, (blk_cell BK323.out 3).trans rfl, (blk_cell BK323.out 4).trans rfl⟩ (fun hHeld => ?_)
                        clear hK K
                        refine zq_ (some 160) (h := ?_)
                        refine zp_ 10 (some 161) (h := ?_)
                        refine last_ (i := 11) (N := none) #[true, true, true, true, true, true, true, true, true, true, true, true] rfl rfl (one_of HT_.out (by kernel_rfl)) (by decide) (fun K hK => ?_)
                        refine skip_ (w1 := ?_) (by rfl) rfl ?_ ?_
                        rotate_left
                        ·go_simp
                         rfl
                        refine hK.out _ _ ?_
                        clear hK K
                        refine done_ (done_of HT_.out (by kernel_rfl)) ?_
                        try go_wp2
                        go_roundg k5
                        case measure => have := HJ3.out; have := HJ41.out; have := HK3.out; have := HK4.out; have := HK5.out; omega
                        case rel => exact ⟨(wrap64 (x15_4 + 1)), (y330), (.slice (some ⟨go112, 0, none⟩) x323001_4.length co112), (by first | rfl | (simp; done) | (simp [*]; done)), H', ⟨by have := HJ3.out; have := HJ41.out; have := HK3.out; have := HK4.out; have := HK5.out; omega⟩, ⟨zr_ (Kd.R_mono (Kd.R_far (p := ⟨go112, ((ji109) : Int).toNat, none⟩) (Kd.R_types HO_323000.out GG112.out (by decide)) (fun _ hk => hk.2) (.int .i64 t329)) (fun _ hk => trivial))⟩, ⟨zr_ HQ116.out⟩, ⟨by (with_reducible repeat (first | refine blk_drewN ?_ _ | refine blk_drew ?_ | refine blk_alloc ?_ _)); refine blk_far ?_ (by have h_ := Kd.R_ne HO_323001.out BK296.out (by decide); intro e_; exact h_ (by rw [e_]; rfl)) _; (with_reducible repeat (first | refine blk_drewN ?_ _ | refine blk_drew ?_ | refine blk_alloc ?_ _)); exact BK296.out⟩, ⟨by (with_reducible repeat (first | refine blk_drewN ?_ _ | refine blk_drew ?_ | refine blk_alloc ?_ _)); refine blk_far ?_ (by have h_ := Kd.R_ne HO_323001.out BK297.out (by decide); intro e_; exact h_ (by rw [e_]; rfl)) _; (with_reducible repeat (first | refine blk_drewN ?_ _ | refine blk_drew ?_ | refine blk_alloc ?_ _)); exact BK297.out⟩, ⟨by (with_reducible repeat (first | refine blk_drewN ?_ _ | refine blk_drew ?_ | refine blk_alloc ?_ _)); refine blk_far ?_ (by have h_ := Kd.R_ne HO_323001.out BK298.out (by decide); intro e_; exact h_ (by rw [e_]; rfl)) _; (with_reducible repeat (first | refine blk_drewN ?_ _ | refine blk_drew ?_ | refine blk_alloc ?_ _)); exact BK298.out⟩, ⟨by (with_reducible repeat (first | refine blk_drewN ?_ _ | refine blk_drew ?_ | refine blk_alloc ?_ _)); refine blk_far ?_ (by have h_ := Kd.R_ne HO_323001.out BK322.out (by decide); intro e_; exact h_ (by rw [e_]; rfl)) _; (with_reducible repeat (first | refine blk_drewN ?_ _ | refine blk_drew ?_ | refine blk_alloc ?_ _)); exact BK322.out⟩, ⟨by repeat (first | (with_reducible first | exact HB.out | apply below_alloc | apply pw_below_drewN | apply below_drew1 | refine below_set ?_ GB112.out | refine below_set ?_ GE296.out | refine below_set ?_ GE297.out | refine below_set ?_ GE298.out | refine below_set ?_ GE322.out | refine below_set ?_ GE323.out) | exact HB.out)⟩⟩
                       ·rw [if_neg c111] at H
                        exact absurd H (by simp)
                      ·rw [if_neg c110] at H
                       exact absurd H (by simp)
                  ·rw [if_neg c82] at H
                   have c82b0 : decide (x15_4 < (wrap64 ((wrap64 (Int.tdiv (wrap64 ((rd l0_0 1) - (rd l1_0 2))) a2)) + 1))) = false := decide_eq_false c82
                   clear c82
                   have H' := Aside0.mk H
                   clear H
                   go_wp2
                   go_roundg k4
                   case measure => have := HJ3.out; have := HJ41.out; have := HK3.out; have := HK4.out; omega
                   case rel => exact ⟨(wrap64 (x14_3 + 1)), (x323001_4), (u323001), (by first | rfl | (simp; done) | (simp [*]; done)), H', ⟨by have := HJ3.out; have := HJ41.out; have := HK3.out; have := HK4.out; omega⟩, ⟨zr_ HO_323000.out⟩, ⟨zr_ HO_323001.out⟩, ⟨zb_ BK296⟩, ⟨zb_ BK297⟩, ⟨zb_ BK298⟩, ⟨zb_ BK322⟩, ⟨zw4_ HB GE296 GE297 GE298 GE322⟩⟩
               ·rw [if_neg c81] at H
                have c81b0 : decide (x14_3 < (rd l1_0 0)) = false := decide_eq_false c81
                clear c81
                simp only [Option.some.injEq, Prod.mk.injEq] at H
                obtain ⟨rfl, rfl, rfl⟩ := H
                have hnb117 := NB322_296.out
                have hnc117 := NB296_322.out
                have hnb118 := NB322_297.out
                have hnc118 := NB297_322.out
                have hnb119 := NB322_298.out
                have hnc119 := NB298_322.out
                have hcz120_0 := zx_ (v := .slice Ao75 t316.length co75) BK322 0
                have hcz120_1 := zx_ (v := u323001) BK322 1
                have hfz120_0 := blk_frozen BK322.out 0
                have hfz120_1 := blk_frozen BK322.out 1
                have hnb121 := NB298_296.out
                have hnc121 := NB296_298.out
                have hnb122 := NB298_297.out
                have hnc122 := NB297_298.out
                have hcz123_0 := zx_ (v := .slice none 0 0) BK298 0
                have hcz123_1 := zx_ (v := .slice none 0 0) BK298 1
                have hfz123_0 := blk_frozen BK298.out 0
                have hfz123_1 := blk_frozen BK298.out 1
                obtain ⟨Ao124, co124, eo124⟩ := Kd.R_slice HO_323001.out
                subst eo124
                go_wp2
                refine bodyPost_ret (results_ct rfl _ _ gb298 25 #[.slice Ao75 t316.length co75, .slice Ao124 x323001_3.length co124] (0, 0) _ rfl (by (with_reducible repeat (first | refine blk_drewN ?_ _ | refine blk_drew ?_ | refine blk_alloc ?_ _)); refine blk_put (cs := #[.slice Ao75 t316.length co75, .slice none 0 0]) ?_ 1 _ rfl; (with_reducible repeat (first | refine blk_drewN ?_ _ | refine blk_drew ?_ | refine blk_alloc ?_ _)); refine blk_put (cs := #[.slice none 0 0, .slice none 0 0]) ?_ 0 _ rfl; (with_reducible repeat (first | refine blk_drewN ?_ _ | refine blk_drew ?_ | refine blk_alloc ?_ _)); exact BK298.out) Try.underlying25 rfl (by kernel_rfl)) rfl ?_
                exact ⟨_, _, by first | rfl | (simp [errW_none, errW_some] <;> rfl) | (simp [*, errW_none, errW_some] <;> rfl), zr_ (Kd.R_mono (Kd.R_far (p := ⟨gb298, 1, none⟩) (Kd.R_far (p := ⟨gb298, 0, none⟩) (Kd.R_types HO_323000.out BK298.out (by decide)) (fun _ hk => hk.2) (.slice Ao75 t316.length co75)) (fun _ hk => hk.2) (.slice Ao124 x323001_3.length co124)) (fun _ hk => trivial)), zr_ (Kd.R_mono (Kd.R_far (p := ⟨gb298, 1, none⟩) (Kd.R_far (p := ⟨gb298, 0, none⟩) (Kd.R_types HO_323001.out BK298.out (by decide)) (fun _ hk => hk.2) (.slice Ao75 t316.length co75)) (fun _ hk => hk.2) (.slice Ao124 x323001_3.length co124)) (fun _ hk => trivial)), zw4_ HB GE296 GE297 GE298 GE322⟩
            ·replace c64 := Bool.eq_false_iff.mpr c64
             subst c64
             have H1 := H
             rw [if_neg (show ¬ (false = true) by decide)] at H1
             clear H
             have H := H1
             clear H1
             simp only [Option.some.injEq, Prod.mk.injEq] at H
             obtain ⟨rfl, rfl, rfl⟩ := H
             try go_wp2
             replace BK296 := Aside0.mk (blk_drew BK296.out)
             replace BK297 := Aside0.mk (blk_drew BK297.out)
             replace BK298 := Aside0.mk (blk_drew BK298.out)
             replace HB := Aside0.mk (below_drew1 HB.out)
             have p305 : 0 ≤ (0 : Int) := (by omega)
             have q305 : 0 < (l0_0.length : Int) := of_decide_eq_true (by first | (with_reducible assumption) | assumption)
             obtain ⟨ad305, e305, hx305_0⟩ := Kd.at_int HR0_0.out 0 p305 q305
             have hw305_0 := hx305_0
             (try rw [show ((0 : Int)).toNat = 0 from rfl] at hw305_0)
             (try rw [show 0 * 1 = 0 from rfl] at hw305_0)
             (try rw [Addr.add_zero'] at hw305_0)
             cases e305
             have qi305 : (0 < l0_0.length) = True := eq_true (by omega)
             (try rw [show ((0 : Int)).toNat = 0 from rfl] at hx305_0)
             (try rw [Addr.add_zero'] at hx305_0)
             replace hx305_0 := (HB.out.cell (World.block_lt_of_cell? w _ hx305_0)).trans hx305_0
             replace p305 := eq_true p305
             replace q305 := eq_true q305
             have p306 : 0 ≤ (1 : Int) := (by omega)
             have q306 : 1 < (l0_0.length : Int) := of_decide_eq_true (by first | (with_reducible assumption) | assumption)
             obtain ⟨ad306, e306, hx306_0⟩ := Kd.at_int HR0_0.out 1 p306 q306
             have hw306_0 := hx306_0
             (try rw [show ((1 : Int)).toNat = 1 from rfl] at hw306_0)
             (try rw [show 1 * 1 = 1 from rfl] at hw306_0)
             (try simp only [Nat.reduceMul, Nat.reduceEqDiff, Go.Addr.add, ↓reduceIte] at hw306_0)
             obtain rfl : ad305 = ad306 := (by injection e306)
             (try simp only [show (1 : Int).toNat = 1 from rfl, Nat.reduceMul, Nat.reduceEqDiff, Go.Addr.add, ↓reduceIte] at hx306_0)
             have qi306 : (1 < l0_0.length) = True := eq_true (by omega)
             (try rw [show ((1 : Int)).toNat = 1 from rfl] at hx306_0)
             replace hx306_0 := (HB.out.cell (World.block_lt_of_cell? w _ hx306_0)).trans hx306_0
             replace p306 := eq_true p306
             replace q306 := eq_true q306
             have p307 : 0 ≤ (0 : Int) := (by omega)
             have q307 : 0 < (l1_0.length : Int) := of_decide_eq_true (by first | (with_reducible assumption) | assumption)
             obtain ⟨ad307, e307, hx307_0⟩ := Kd.at_int HR1_0.out 0 p307 q307
             have hw307_0 := hx307_0
             (try rw [show ((0 : Int)).toNat = 0 from rfl] at hw307_0)
             (try rw [show 0 * 1 = 0 from rfl] at hw307_0)
             (try rw [Addr.add_zero'] at hw307_0)
             cases e307
             have qi307 : (0 < l1_0.length) = True := eq_true (by omega)
             (try rw [show ((0 : Int)).toNat = 0 from rfl] at hx307_0)
             (try rw [Addr.add_zero'] at hx307_0)
             replace hx307_0 := (HB.out.cell (World.block_lt_of_cell? w _ hx307_0)).trans hx307_0
             replace p307 := eq_true p307
             replace q307 := eq_true q307
             have p308 : 0 ≤ (2 : Int) := (by omega)
             have q308 : 2 < (l1_0.length : Int) := of_decide_eq_true (by first | (with_reducible assumption) | assumption)
             obtain ⟨ad308, e308, hx308_0⟩ := Kd.at_int HR1_0.out 2 p308 q308
             have hw308_0 := hx308_0
             (try rw [show ((2 : Int)).toNat = 2 from rfl] at hw308_0)
             (try rw [show 2 * 1 = 2 from rfl] at hw308_0)
             (try simp only [Nat.reduceMul, Nat.reduceEqDiff, Go.Addr.add, ↓reduceIte] at hw308_0)
             obtain rfl : ad307 = ad308 := (by injection e308)
             (try simp only [show (2 : Int).toNat = 2 from rfl, Nat.reduceMul, Nat.reduceEqDiff, Go.Addr.add, ↓reduceIte] at hx308_0)
             have qi308 : (2 < l1_0.length) = True := eq_true (by omega)
             (try rw [show ((2 : Int)).toNat = 2 from rfl] at hx308_0)
             replace hx308_0 := (HB.out.cell (World.block_lt_of_cell? w _ hx308_0)).trans hx308_0
             replace p308 := eq_true p308
             replace q308 := eq_true q308
             refine start_ (n := 20) (S := fun w' => w'.cell? ⟨gb296, 0, none⟩ = some (.slice (some ad305) l0_0.length c0_0) ∧ w'.cell? ⟨gb296, 1, none⟩ = some (.slice A0_1 l0_1.length c0_1) ∧ w'.cell? ⟨gb297, 0, none⟩ = some (.slice (some ad307) l1_0.length c1_0) ∧ w'.cell? ⟨gb297, 1, none⟩ = some (.slice A1_1 l1_1.length c1_1) ∧ w'.cell? ad305 = some (.int .i64 (rd l0_0 0)) ∧ w'.cell? ⟨ad305.block, ad305.off + 1, none⟩ = some (.int .i64 (rd l0_0 1)) ∧ w'.cell? ad307 = some (.int .i64 (rd l1_0 0)) ∧ w'.cell? ⟨ad307.block, ad307.off + 2, none⟩ = some (.int .i64 (rd l1_0 2))) (ds := []) #[false, false, false, false, false, false, false, false, false, false, false, false, false, false, false, false, false, false, false, false] (by kernel_rfl) rfl rfl ⟨(blk_cell BK296.out 0).trans rfl, (blk_cell BK296.out 1).trans rfl, (blk_cell BK297.out 0).trans rfl, (blk_cell BK297.out 1).trans rfl, ((HB.out.cell (World.block_lt_of_cell? w _ hw305_0)).trans hw305_0), ((HB.out.cell (World.block_lt_of_cell? w _ hw306_0)).trans hw306_0), ((HB.out.cell (World.block_lt_of_cell? w _ hw307_0)).trans hw307_0), ((HB.out.cell (World.block_lt_of_cell? w _ hw308_0)).trans hw308_0)⟩ (fun hHeld => ?_); refine with_tabW carouselref5_Row.tab5 carouselref5_Row.bits5 (fun HT_ HW_ => ?_)
             generalize wc.drew = w125 at BK296 BK297 BK298 HB hx305_0 hx306_0 hx307_0 hx308_0 hHeld ⊢
             refine zp_ 0 (some 69) (h := ?_)
             refine zp_ 4 (some 73) (h := ?_)
             refine zp_ 8 (some 77) (h := ?_)
             refine zp_ 12 (some 81) (h := ?_)
             refine zt_ 1 (some 70) (hr := by rintro w' ⟨s0, s1, s2, s3, s4, s5, s6, s7⟩; go_simp; with_reducible rfl) (h := ?_)
             refine zp_ 2 (some 71) (h := ?_)
             refine zt_ 3 (some 72) (hr := by rintro w' ⟨s0, s1, s2, s3, s4, s5, s6, s7⟩; go_simp; with_reducible rfl) (h := ?_)
             refine zp_ 16 (some 8) (h := ?_)
             refine zt_ 5 (some 74) (hr := by rintro w' ⟨s0, s1, s2, s3, s4, s5, s6, s7⟩; go_simp; with_reducible rfl) (h := ?_)
             refine zp_ 6 (some 75) (h := ?_)
             refine zt_ 7 (some 76) (hr := by rintro w' ⟨s0, s1, s2, s3, s4, s5, s6, s7⟩; go_simp; with_reducible rfl) (h := ?_)
             refine zp_ 17 (some 9) (h := ?_)
             refine zt_ 9 (some 78) (hr := by rintro w' ⟨s0, s1, s2, s3, s4, s5, s6, s7⟩; go_simp; with_reducible rfl) (h := ?_)
             refine zp_ 10 (some 79) (h := ?_)
             refine zt_ 11 (some 80) (hr := by rintro w' ⟨s0, s1, s2, s3, s4, s5, s6, s7⟩; go_simp; with_reducible rfl) (h := ?_)
             refine zp_ 18 (some 10) (h := ?_)
             refine zt_ 13 (some 82) (hr := by rintro w' ⟨s0, s1, s2, s3, s4, s5, s6, s7⟩; go_simp; with_reducible rfl) (h := ?_)
             refine zp_ 14 (some 83) (h := ?_)
             refine zt_ 15 (some 84) (hr := by rintro w' ⟨s0, s1, s2, s3, s4, s5, s6, s7⟩; go_simp; with_reducible rfl) (h := ?_)
             refine zp_ 19 (some 11) (h := ?_)
             refine done_ (done_of HT_.out (by kernel_rfl)) ?_
             try go_wp2_with (first | ((with_reducible refine gate_dst (N := 93) rfl ?_); (try (refine gate_guard (by rfl) ?_; dsimp only)); refine Kd.R_lit (Kd.int .i64) _ 3 ?hg (N := 93) ?hd (xs := ([rd l1_0 0, wrap64 ((wrap64 (Int.tdiv (wrap64 ((rd l0_0 1) - (rd l1_0 2))) a2)) + 1)] : List Int)) (inner := [.int .i64 (rd l1_0 0), .int .i64 (wrap64 ((wrap64 (Int.tdiv (wrap64 ((rd l0_0 1) - (rd l1_0 2))) a2)) + 1))]) (ok := fun _ => True) (okp := fun _ => True) ?hr ?hp (fun _ hk => hk) trivial (Below.refl _ _) (Nat.le_refl _) (by simp) ?_; (case hd => rfl); (case hg => rfl); (case hr => first | (go_simp; done) | (go_simp; rfl)); (case hp => exact (Reps.one (show Kd.M (Kd.int .i64) _ _ _ (rd l1_0 0) [.int .i64 (rd l1_0 0)] from rfl) (Reps.one (show Kd.M (Kd.int .i64) _ _ _ (wrap64 ((wrap64 (Int.tdiv (wrap64 ((rd l0_0 1) - (rd l1_0 2))) a2)) + 1)) [.int .i64 (wrap64 ((wrap64 (Int.tdiv (wrap64 ((rd l0_0 1) - (rd l1_0 2))) a2)) + 1))] from rfl) (Reps.none _ _)))); intro v310 w126 ho127 hb hg_ hnew_; clear hg_ hnew_; (first | rw [← Ny309.out] at ho127 | (simp only [Int.reduceToNat] at ho127; rw [← Ny309.out] at ho127)); have HO311 := Aside0.mk (Kd.R_lower ho127 (below_size (zw3_ HB GE296 GE297 GE298))); replace BK296 := Aside0.mk (zl_ BK296 hb); replace BK297 := Aside0.mk (zl_ BK297 hb); replace BK298 := Aside0.mk (zl_ BK298 hb); replace HB := Aside0.mk (below_step (zw3_ HB GE296 GE297 GE298) hb); clear hb ho127; obtain ⟨Ao128, co128, eo128⟩ := Kd.R_slice HO311.out; subst eo128) | ((with_reducible refine gate_callee (f := 33) rfl ?_); refine zg_ (some 94) Try.func33 #[.slice Ao128 y309.length co128] (h := ?_); (with_reducible refine (carouselref5_Good.calls kj41 _ _ y309 false _ ?side1 ?side2 A63.out).mono ?_); (case side1 => exact zk_ ((Kd.R_reads' HO311.out).2.2)); (case side2 => exact (Kd.R_reads' HO311.out).2.1); rintro e w' ⟨rfl, ⟨nd, rfl⟩⟩; refine ⟨_, rfl, ?_⟩; (try (rw [drewN_self w126]; generalize hq_ : World.drewN w126 _ = w126; have n0_ : Aside0 (Kd.R (Kd.int .i64) 3 w126 w.heap.size (fun _ => True) (.slice Ao128 y309.length co128) y309) := ⟨by rw [← hq_]; exact (zr_ HO311.out)⟩; have n1_ : Aside0 (w126.heap[gb296]? = some (.cells #[.slice (some ad305) l0_0.length c0_0, .slice A0_1 l0_1.length c0_1] 25 (0, 0))) := ⟨by rw [← hq_]; exact (zb_ BK296)⟩; have n2_ : Aside0 (w126.heap[gb297]? = some (.cells #[.slice (some ad307) l1_0.length c1_0, .slice A1_1 l1_1.length c1_1] 25 (0, 0))) := ⟨by rw [← hq_]; exact (zb_ BK297)⟩; have n3_ : Aside0 (w126.heap[gb298]? = some (.cells #[.slice none 0 0, .slice none 0 0] 25 (0, 0))) := ⟨by rw [← hq_]; exact (zb_ BK298)⟩; have n4_ : Aside0 (Below w.heap.size w w126) := ⟨by rw [← hq_]; exact (zw3_ HB GE296 GE297 GE298)⟩; clear HO311 BK296 BK297 BK298 HB hq_; have HO311 := n0_; have BK296 := n1_; have BK297 := n2_; have BK298 := n3_; have HB := n4_; clear n0_ n1_ n2_ n3_ n4_)); have hnb129 := NB298_296.out; have hnc129 := NB296_298.out; have hnb130 := NB298_297.out; have hnc130 := NB297_298.out; have hcz131_0 := zx_ (v := .slice none 0 0) BK298 0; have hcz131_1 := zx_ (v := .slice none 0 0) BK298 1; have hfz131_0 := blk_frozen BK298.out 0; have hfz131_1 := blk_frozen BK298.out 1))
             refine bodyPost_ret (results_ct rfl _ _ gb298 25 #[.slice none 0 0, .slice none 0 0] (0, 0) _ rfl (by (with_reducible repeat (first | refine blk_drewN ?_ _ | refine blk_drew ?_ | refine blk_alloc ?_ _)); refine blk_put (cs := #[.slice none 0 0, .slice none 0 0]) ?_ 1 _ rfl; (with_reducible repeat (first | refine blk_drewN ?_ _ | refine blk_drew ?_ | refine blk_alloc ?_ _)); refine blk_put (cs := #[.slice none 0 0, .slice none 0 0]) ?_ 0 _ rfl; (with_reducible repeat (first | refine blk_drewN ?_ _ | refine blk_drew ?_ | refine blk_alloc ?_ _)); exact BK298.out) Try.underlying25 rfl (by kernel_rfl)) rfl ?_
             exact ⟨_, _, by first | rfl | (simp [errW_none, errW_some] <;> rfl) | (simp [*, errW_none, errW_some] <;> rfl), by first | exact Kd.R_nil _ _ _ _ _ | exact Kd.N_nil _ _ _ _ _ | exact Kd.V_nil _ _ _ _ _ | exact Kd.Q_nil _ _ _ _ _ | exact Kd.S_nil _ _ _ _ _, by first | exact Kd.R_nil _ _ _ _ _ | exact Kd.N_nil _ _ _ _ _ | exact Kd.V_nil _ _ _ _ _ | exact Kd.Q_nil _ _ _ _ _ | exact Kd.S_nil _ _ _ _ _, zw3_ HB GE296 GE297 GE298⟩
          ·rw [if_neg c61] at H
           exact absurd H (by simp)
         ·rw [if_neg c60] at H
          exact absurd H (by simp)
        ·rw [if_neg c59] at H
         exact absurd H (by simp)
       ·rw [if_neg c58] at H
        exact absurd H (by simp)

end Go.Proofs.Ytcipfhlcgnomaaa.PConvRows
