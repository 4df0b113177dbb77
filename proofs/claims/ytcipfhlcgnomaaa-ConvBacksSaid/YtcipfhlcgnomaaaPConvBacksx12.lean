/- The functions that the law ConvBacks reaches, as Lean functions, and that each call of the Go function does what its Lean function says, wherever that one answers. Written by a program of mine over the print of the kit; Lean checks it. -/
import Derived.Test.YtcipfhlcgnomaaaPConvBacksx0
import Derived.Test.YtcipfhlcgnomaaaPConvBacksx9
import Derived.Test.YtcipfhlcgnomaaaPConvBacksx10
import Derived.Test.YtcipfhlcgnomaaaPConvBacksx11
namespace Go.Proofs.Ytcipfhlcgnomaaa.PConvBacks
open Go.RowKit Go.Proofs.YtcipfhlcgnomaaaW.PrintWords Go.Proofs.YtcipfhlcgnomaaaW.PrintLast Go.Proofs.YtcipfhlcgnomaaaW.PrintMore
attribute [local go_sem] max2_int min2_int max_two min_two max_three min_three max_four min_four   -- for this text's walks alone
set_option linter.unusedVariables false
set_option linter.unusedSimpArgs false

/-! ### carouselref5_BackIn: function 23 -/
mutual
def carouselref5_BackIn.j0 : Nat → Int → Int → Bool → List Int → List Int → List Int → List Int → Option (List Int × List Int × Int)
 | 0, _, _, _, _, _, _, _ => none
 | k + 1, x2, x3, x44, x315000, x315001, x316000, x316001 => if x44 = true then (some (([] : List Int), ([] : List Int), 1)) else (if (x315000.length : Int) = 2 then (if (x316000.length : Int) = 3 then (if 0 < (x315000.length : Int) then (if 0 < (x316000.length : Int) then (if (rd x315000 0) = (rd x316000 0) then (if 2 < (x316000.length : Int) then (if (rd x316000 2) > x3 then (carouselref5_BackIn.j1 k x2 x3 true x315000 x315001 x316000 x316001) else (if 1 < (x315000.length : Int) then (if x2 = 0 then (none) else (carouselref5_BackIn.j1 k x2 x3 ((rd x315000 1) != (wrap64 ((wrap64 (Int.tdiv (wrap64 (x3 - (rd x316000 2))) x2)) + 1))) x315000 x315001 x316000 x316001)) else (none))) else (none)) else (carouselref5_BackIn.j1 k x2 x3 true x315000 x315001 x316000 x316001)) else (none)) else (none)) else (carouselref5_BackIn.j1 k x2 x3 true x315000 x315001 x316000 x316001)) else (carouselref5_BackIn.j1 k x2 x3 true x315000 x315001 x316000 x316001))
def carouselref5_BackIn.j1 : Nat → Int → Int → Bool → List Int → List Int → List Int → List Int → Option (List Int × List Int × Int)
 | 0, _, _, _, _, _, _, _ => none
 | k + 1, x2, x3, x90, x315000, x315001, x316000, x316001 => if x90 = true then (some (([] : List Int), ([] : List Int), 4)) else (if 0 < (x315000.length : Int) then (if 1 < (x315000.length : Int) then (if 1 < (x316000.length : Int) then (if 2 < (x316000.length : Int) then ((carouselref5_Good.f k (([rd x316000 1, x3] : List Int))).bind fun t331 => (if t331 = true then ((carouselref5_New.f k (([rd x316000 1, x3] : List Int)) 0).bind fun bt335 => (carouselref5_BackIn.l0 k x2 x3 (rd x315000 0) (rd x315000 1) (rd x316000 1) (rd x316000 2) 0 x315000 x315001 x316000 x316001 bt335.1 bt335.2)) else (some (([] : List Int), ([] : List Int), 2)))) else (none)) else (none)) else (none)) else (none))
def carouselref5_BackIn.l0 : Nat → Int → Int → Int → Int → Int → Int → Int → List Int → List Int → List Int → List Int → List Int → List Int → Option (List Int × List Int × Int)
 | 0, _, _, _, _, _, _, _, _, _, _, _, _, _ => none
 | k + 1, x2, x3, x10, x11, x12, x13, x15, x315000, x315001, x316000, x316001, x342000, x342001 => if x15 < x12 then (carouselref5_BackIn.l1 k x2 x3 x10 x11 x12 x13 x15 0 x315000 x315001 x316000 x316001 x342000 x342001) else (some (x342000, x342001, 0))
def carouselref5_BackIn.l1 : Nat → Int → Int → Int → Int → Int → Int → Int → Int → List Int → List Int → List Int → List Int → List Int → List Int → Option (List Int × List Int × Int)
 | 0, _, _, _, _, _, _, _, _, _, _, _, _, _, _ => none
 | k + 1, x2, x3, x10, x11, x12, x13, x15, x16, x315000, x315001, x316000, x316001, x342000, x342001 => if x16 < x3 then (carouselref5_BackIn.l2 k x2 x3 x10 x11 x12 x13 x15 x16 0 x315000 x315001 x316000 x316001 x342000 x342001 false 0 0 0 0) else (carouselref5_BackIn.l0 k x2 x3 x10 x11 x12 x13 (wrap64 (x15 + 1)) x315000 x315001 x316000 x316001 x342000 x342001)
def carouselref5_BackIn.l2 : Nat → Int → Int → Int → Int → Int → Int → Int → Int → Int → List Int → List Int → List Int → List Int → List Int → List Int → Bool → Int → Int → Int → Int → Option (List Int × List Int × Int)
 | 0, _, _, _, _, _, _, _, _, _, _, _, _, _, _, _, _, _, _, _, _ => none
 | k + 1, x2, x3, x10, x11, x12, x13, x15, x16, x18, x315000, x315001, x316000, x316001, x342000, x342001, x343000, x343001, x343002, x343003, x343004 => if x18 < x11 then (if (wrap64 (x16 - (wrap64 (x18 * x2)))) < 0 then (carouselref5_BackIn.j5 k x2 x3 x10 x11 x12 x13 x15 x16 x18 (wrap64 (x16 - (wrap64 (x18 * x2)))) true x315000 x315001 x316000 x316001 x342000 x342001 x343000 x343001 x343002 x343003 x343004) else (carouselref5_BackIn.j5 k x2 x3 x10 x11 x12 x13 x15 x16 x18 (wrap64 (x16 - (wrap64 (x18 * x2)))) (decide ((wrap64 (x16 - (wrap64 (x18 * x2)))) ≥ x13)) x315000 x315001 x316000 x316001 x342000 x342001 x343000 x343001 x343002 x343003 x343004)) else ((carouselref1_Halved.f x343000 x343001 x343002 x343003 x343004 32).bind fun bt343 => ((carouselref1_Held.f k bt343.1 bt343.2.1 bt343.2.2.1 bt343.2.2.2.1 bt343.2.2.2.2).bind fun t348 => (if 0 ≤ (wrap64 ((wrap64 (x15 * x3)) + x16)) then (if (wrap64 ((wrap64 (x15 * x3)) + x16)) < (x342001.length : Int) then (carouselref5_BackIn.l1 k x2 x3 x10 x11 x12 x13 x15 (wrap64 (x16 + 1)) x315000 x315001 x316000 x316001 x342000 (x342001.set ((wrap64 ((wrap64 (x15 * x3)) + x16)) : Int).toNat t348)) else (none)) else (none))))
def carouselref5_BackIn.j5 : Nat → Int → Int → Int → Int → Int → Int → Int → Int → Int → Int → Bool → List Int → List Int → List Int → List Int → List Int → List Int → Bool → Int → Int → Int → Int → Option (List Int × List Int × Int)
 | 0, _, _, _, _, _, _, _, _, _, _, _, _, _, _, _, _, _, _, _, _, _, _ => none
 | k + 1, x2, x3, x10, x11, x12, x13, x15, x16, x18, x19, x145, x315000, x315001, x316000, x316001, x342000, x342001, x343000, x343001, x343002, x343003, x343004 => if x145 = true then (carouselref5_BackIn.l2 k x2 x3 x10 x11 x12 x13 x15 x16 (wrap64 (x18 + 1)) x315000 x315001 x316000 x316001 x342000 x342001 x343000 x343001 x343002 x343003 x343004) else (carouselref5_BackIn.l3 k x2 x3 x10 x11 x12 x13 x15 x16 x18 x19 0 x315000 x315001 x316000 x316001 x342000 x342001 x343000 x343001 x343002 x343003 x343004)
def carouselref5_BackIn.l3 : Nat → Int → Int → Int → Int → Int → Int → Int → Int → Int → Int → Int → List Int → List Int → List Int → List Int → List Int → List Int → Bool → Int → Int → Int → Int → Option (List Int × List Int × Int)
 | 0, _, _, _, _, _, _, _, _, _, _, _, _, _, _, _, _, _, _, _, _, _, _ => none
 | k + 1, x2, x3, x10, x11, x12, x13, x15, x16, x18, x19, x20, x315000, x315001, x316000, x316001, x342000, x342001, x343000, x343001, x343002, x343003, x343004 => if x20 < x10 then (if 0 ≤ (wrap64 ((wrap64 (x20 * x11)) + x18)) then (if (wrap64 ((wrap64 (x20 * x11)) + x18)) < (x315001.length : Int) then (if 0 ≤ (wrap64 ((wrap64 ((wrap64 ((wrap64 (x20 * x12)) + x15)) * x13)) + x19)) then (if (wrap64 ((wrap64 ((wrap64 ((wrap64 (x20 * x12)) + x15)) * x13)) + x19)) < (x316001.length : Int) then ((carouselref1_Times.f (rd x315001 (wrap64 ((wrap64 (x20 * x11)) + x18))) (rd x316001 (wrap64 ((wrap64 ((wrap64 ((wrap64 (x20 * x12)) + x15)) * x13)) + x19)))).bind fun bt352 => ((carouselref1_Plus.f x343000 x343001 x343002 x343003 x343004 bt352.1 bt352.2.1 bt352.2.2.1 bt352.2.2.2.1 bt352.2.2.2.2).bind fun bt357 => (carouselref5_BackIn.l3 k x2 x3 x10 x11 x12 x13 x15 x16 x18 x19 (wrap64 (x20 + 1)) x315000 x315001 x316000 x316001 x342000 x342001 bt357.1 bt357.2.1 bt357.2.2.1 bt357.2.2.2.1 bt357.2.2.2.2))) else (none)) else (none)) else (none)) else (none)) else (carouselref5_BackIn.l2 k x2 x3 x10 x11 x12 x13 x15 x16 (wrap64 (x18 + 1)) x315000 x315001 x316000 x316001 x342000 x342001 x343000 x343001 x343002 x343003 x343004)
end
def carouselref5_BackIn.f (k : Nat) (l0_0 : List Int) (l0_1 : List Int) (l1_0 : List Int) (l1_1 : List Int) (a2 : Int) (a3 : Int) : Option (List Int × List Int × Int) := (carouselref5_Is.f k l0_0 l0_1).bind fun t317 => (if t317 = true then ((carouselref5_Is.f k l1_0 l1_1).bind fun t318 => (if t318 = true then (if a2 < 1 then (carouselref5_BackIn.j0 k a2 a3 true l0_0 l0_1 l1_0 l1_1) else (if a2 > 64 then (carouselref5_BackIn.j0 k a2 a3 true l0_0 l0_1 l1_0 l1_1) else (if a3 < 1 then (carouselref5_BackIn.j0 k a2 a3 true l0_0 l0_1 l1_0 l1_1) else (carouselref5_BackIn.j0 k a2 a3 (decide (a3 > 4096)) l0_0 l0_1 l1_0 l1_1)))) else (carouselref5_BackIn.j0 k a2 a3 true l0_0 l0_1 l1_0 l1_1))) else (carouselref5_BackIn.j0 k a2 a3 true l0_0 l0_1 l1_0 l1_1))
theorem carouselref5_BackIn.mono_l : ∀ k, (∀ y0 y1 y2 y3 y4 y5 y6, LeO (carouselref5_BackIn.j0 k y0 y1 y2 y3 y4 y5 y6) (carouselref5_BackIn.j0 (k + 1) y0 y1 y2 y3 y4 y5 y6)) ∧ (∀ y0 y1 y2 y3 y4 y5 y6, LeO (carouselref5_BackIn.j1 k y0 y1 y2 y3 y4 y5 y6) (carouselref5_BackIn.j1 (k + 1) y0 y1 y2 y3 y4 y5 y6)) ∧ (∀ y0 y1 y2 y3 y4 y5 y6 y7 y8 y9 y10 y11 y12, LeO (carouselref5_BackIn.l0 k y0 y1 y2 y3 y4 y5 y6 y7 y8 y9 y10 y11 y12) (carouselref5_BackIn.l0 (k + 1) y0 y1 y2 y3 y4 y5 y6 y7 y8 y9 y10 y11 y12)) ∧ (∀ y0 y1 y2 y3 y4 y5 y6 y7 y8 y9 y10 y11 y12 y13, LeO (carouselref5_BackIn.l1 k y0 y1 y2 y3 y4 y5 y6 y7 y8 y9 y10 y11 y12 y13) (carouselref5_BackIn.l1 (k + 1) y0 y1 y2 y3 y4 y5 y6 y7 y8 y9 y10 y11 y12 y13)) ∧ (∀ y0 y1 y2 y3 y4 y5 y6 y7 y8 y9 y10 y11 y12 y13 y14 y15 y16 y17 y18 y19, LeO (carouselref5_BackIn.l2 k y0 y1 y2 y3 y4 y5 y6 y7 y8 y9 y10 y11 y12 y13 y14 y15 y16 y17 y18 y19) (carouselref5_BackIn.l2 (k + 1) y0 y1 y2 y3 y4 y5 y6 y7 y8 y9 y10 y11 y12 y13 y14 y15 y16 y17 y18 y19)) ∧ (∀ y0 y1 y2 y3 y4 y5 y6 y7 y8 y9 y10 y11 y12 y13 y14 y15 y16 y17 y18 y19 y20 y21, LeO (carouselref5_BackIn.j5 k y0 y1 y2 y3 y4 y5 y6 y7 y8 y9 y10 y11 y12 y13 y14 y15 y16 y17 y18 y19 y20 y21) (carouselref5_BackIn.j5 (k + 1) y0 y1 y2 y3 y4 y5 y6 y7 y8 y9 y10 y11 y12 y13 y14 y15 y16 y17 y18 y19 y20 y21)) ∧ (∀ y0 y1 y2 y3 y4 y5 y6 y7 y8 y9 y10 y11 y12 y13 y14 y15 y16 y17 y18 y19 y20 y21, LeO (carouselref5_BackIn.l3 k y0 y1 y2 y3 y4 y5 y6 y7 y8 y9 y10 y11 y12 y13 y14 y15 y16 y17 y18 y19 y20 y21) (carouselref5_BackIn.l3 (k + 1) y0 y1 y2 y3 y4 y5 y6 y7 y8 y9 y10 y11 y12 y13 y14 y15 y16 y17 y18 y19 y20 y21))
 | 0 => ⟨fun _ _ _ _ _ _ _ r h => by simp [carouselref5_BackIn.j0] at h, fun _ _ _ _ _ _ _ r h => by simp [carouselref5_BackIn.j1] at h, fun _ _ _ _ _ _ _ _ _ _ _ _ _ r h => by simp [carouselref5_BackIn.l0] at h, fun _ _ _ _ _ _ _ _ _ _ _ _ _ _ r h => by simp [carouselref5_BackIn.l1] at h, fun _ _ _ _ _ _ _ _ _ _ _ _ _ _ _ _ _ _ _ _ r h => by simp [carouselref5_BackIn.l2] at h, fun _ _ _ _ _ _ _ _ _ _ _ _ _ _ _ _ _ _ _ _ _ _ r h => by simp [carouselref5_BackIn.j5] at h, fun _ _ _ _ _ _ _ _ _ _ _ _ _ _ _ _ _ _ _ _ _ _ r h => by simp [carouselref5_BackIn.l3] at h⟩
 | k + 1 => by
  obtain ⟨ih0, ih1, ih2, ih3, ih4, ih5, ih6⟩ := carouselref5_BackIn.mono_l k
  refine ⟨?_, ?_, ?_, ?_, ?_, ?_, ?_⟩
  ·intro y0 y1 y2 y3 y4 y5 y6
   unfold carouselref5_BackIn.j0
   repeat' first
   | (with_reducible exact ih0 _ _ _ _ _ _ _)
   | (with_reducible exact ih1 _ _ _ _ _ _ _)
   | (with_reducible exact ih2 _ _ _ _ _ _ _ _ _ _ _ _ _)
   | (with_reducible exact ih3 _ _ _ _ _ _ _ _ _ _ _ _ _ _)
   | (with_reducible exact ih4 _ _ _ _ _ _ _ _ _ _ _ _ _ _ _ _ _ _ _ _)
   | (with_reducible exact ih5 _ _ _ _ _ _ _ _ _ _ _ _ _ _ _ _ _ _ _ _ _ _)
   | (with_reducible exact ih6 _ _ _ _ _ _ _ _ _ _ _ _ _ _ _ _ _ _ _ _ _ _)
   | (with_reducible exact LeO.refl _)
   | (with_reducible exact LeO.none _)
   | (with_reducible refine LeO.ite ?_ ?_)
   | (with_reducible refine LeO.bind ?_ (fun _ => ?_))
   | exact ih0 _ _ _ _ _ _ _
   | exact ih1 _ _ _ _ _ _ _
   | exact ih2 _ _ _ _ _ _ _ _ _ _ _ _ _
   | exact ih3 _ _ _ _ _ _ _ _ _ _ _ _ _ _
   | exact ih4 _ _ _ _ _ _ _ _ _ _ _ _ _ _ _ _ _ _ _ _
   | exact ih5 _ _ _ _ _ _ _ _ _ _ _ _ _ _ _ _ _ _ _ _ _ _
   | exact ih6 _ _ _ _ _ _ _ _ _ _ _ _ _ _ _ _ _ _ _ _ _ _
   | exact LeO.none _
   | refine LeO.ite ?_ ?_
   | refine LeO.bind ?_ (fun _ => ?_)
  ·intro y0 y1 y2 y3 y4 y5 y6
   unfold carouselref5_BackIn.j1
   repeat' first
   | (with_reducible exact ih0 _ _ _ _ _ _ _)
   | (with_reducible exact ih1 _ _ _ _ _ _ _)
   | (with_reducible exact ih2 _ _ _ _ _ _ _ _ _ _ _ _ _)
   | (with_reducible exact ih3 _ _ _ _ _ _ _ _ _ _ _ _ _ _)
   | (with_reducible exact ih4 _ _ _ _ _ _ _ _ _ _ _ _ _ _ _ _ _ _ _ _)
   | (with_reducible exact ih5 _ _ _ _ _ _ _ _ _ _ _ _ _ _ _ _ _ _ _ _ _ _)
   | (with_reducible exact ih6 _ _ _ _ _ _ _ _ _ _ _ _ _ _ _ _ _ _ _ _ _ _)
   | (with_reducible exact carouselref5_Good.mono _ _)
   | (with_reducible exact carouselref5_New.mono _ _ _)
   | (with_reducible exact LeO.refl _)
   | (with_reducible exact LeO.none _)
   | (with_reducible refine LeO.ite ?_ ?_)
   | (with_reducible refine LeO.bind ?_ (fun _ => ?_))
   | exact ih0 _ _ _ _ _ _ _
   | exact ih1 _ _ _ _ _ _ _
   | exact ih2 _ _ _ _ _ _ _ _ _ _ _ _ _
   | exact ih3 _ _ _ _ _ _ _ _ _ _ _ _ _ _
   | exact ih4 _ _ _ _ _ _ _ _ _ _ _ _ _ _ _ _ _ _ _ _
   | exact ih5 _ _ _ _ _ _ _ _ _ _ _ _ _ _ _ _ _ _ _ _ _ _
   | exact ih6 _ _ _ _ _ _ _ _ _ _ _ _ _ _ _ _ _ _ _ _ _ _
   | exact carouselref5_Good.mono _ _
   | exact carouselref5_New.mono _ _ _
   | exact LeO.none _
   | refine LeO.ite ?_ ?_
   | refine LeO.bind ?_ (fun _ => ?_)
  ·intro y0 y1 y2 y3 y4 y5 y6 y7 y8 y9 y10 y11 y12
   unfold carouselref5_BackIn.l0
   repeat' first
   | (with_reducible exact ih0 _ _ _ _ _ _ _)
   | (with_reducible exact ih1 _ _ _ _ _ _ _)
   | (with_reducible exact ih2 _ _ _ _ _ _ _ _ _ _ _ _ _)
   | (with_reducible exact ih3 _ _ _ _ _ _ _ _ _ _ _ _ _ _)
   | (with_reducible exact ih4 _ _ _ _ _ _ _ _ _ _ _ _ _ _ _ _ _ _ _ _)
   | (with_reducible exact ih5 _ _ _ _ _ _ _ _ _ _ _ _ _ _ _ _ _ _ _ _ _ _)
   | (with_reducible exact ih6 _ _ _ _ _ _ _ _ _ _ _ _ _ _ _ _ _ _ _ _ _ _)
   | (with_reducible exact LeO.refl _)
   | (with_reducible exact LeO.none _)
   | (with_reducible refine LeO.ite ?_ ?_)
   | (with_reducible refine LeO.bind ?_ (fun _ => ?_))
   | exact ih0 _ _ _ _ _ _ _
   | exact ih1 _ _ _ _ _ _ _
   | exact ih2 _ _ _ _ _ _ _ _ _ _ _ _ _
   | exact ih3 _ _ _ _ _ _ _ _ _ _ _ _ _ _
   | exact ih4 _ _ _ _ _ _ _ _ _ _ _ _ _ _ _ _ _ _ _ _
   | exact ih5 _ _ _ _ _ _ _ _ _ _ _ _ _ _ _ _ _ _ _ _ _ _
   | exact ih6 _ _ _ _ _ _ _ _ _ _ _ _ _ _ _ _ _ _ _ _ _ _
   | exact LeO.none _
   | refine LeO.ite ?_ ?_
   | refine LeO.bind ?_ (fun _ => ?_)
  ·intro y0 y1 y2 y3 y4 y5 y6 y7 y8 y9 y10 y11 y12 y13
   unfold carouselref5_BackIn.l1
   repeat' first
   | (with_reducible exact ih0 _ _ _ _ _ _ _)
   | (with_reducible exact ih1 _ _ _ _ _ _ _)
   | (with_reducible exact ih2 _ _ _ _ _ _ _ _ _ _ _ _ _)
   | (with_reducible exact ih3 _ _ _ _ _ _ _ _ _ _ _ _ _ _)
   | (with_reducible exact ih4 _ _ _ _ _ _ _ _ _ _ _ _ _ _ _ _ _ _ _ _)
   | (with_reducible exact ih5 _ _ _ _ _ _ _ _ _ _ _ _ _ _ _ _ _ _ _ _ _ _)
   | (with_reducible exact ih6 _ _ _ _ _ _ _ _ _ _ _ _ _ _ _ _ _ _ _ _ _ _)
   | (with_reducible exact LeO.refl _)
   | (with_reducible exact LeO.none _)
   | (with_reducible refine LeO.ite ?_ ?_)
   | (with_reducible refine LeO.bind ?_ (fun _ => ?_))
   | exact ih0 _ _ _ _ _ _ _
   | exact ih1 _ _ _ _ _ _ _
   | exact ih2 _ _ _ _ _ _ _ _ _ _ _ _ _
   | exact ih3 _ _ _ _ _ _ _ _ _ _ _ _ _ _
   | exact ih4 _ _ _ _ _ _ _ _ _ _ _ _ _ _ _ _ _ _ _ _
   | exact ih5 _ _ _ _ _ _ _ _ _ _ _ _ _ _ _ _ _ _ _ _ _ _
   | exact ih6 _ _ _ _ _ _ _ _ _ _ _ _ _ _ _ _ _ _ _ _ _ _
   | exact LeO.none _
   | refine LeO.ite ?_ ?_
   | refine LeO.bind ?_ (fun _ => ?_)
  ·intro y0 y1 y2 y3 y4 y5 y6 y7 y8 y9 y10 y11 y12 y13 y14 y15 y16 y17 y18 y19
   unfold carouselref5_BackIn.l2
   repeat' first
   | (with_reducible exact ih0 _ _ _ _ _ _ _)
   | (with_reducible exact ih1 _ _ _ _ _ _ _)
   | (with_reducible exact ih2 _ _ _ _ _ _ _ _ _ _ _ _ _)
   | (with_reducible exact ih3 _ _ _ _ _ _ _ _ _ _ _ _ _ _)
   | (with_reducible exact ih4 _ _ _ _ _ _ _ _ _ _ _ _ _ _ _ _ _ _ _ _)
   | (with_reducible exact ih5 _ _ _ _ _ _ _ _ _ _ _ _ _ _ _ _ _ _ _ _ _ _)
   | (with_reducible exact ih6 _ _ _ _ _ _ _ _ _ _ _ _ _ _ _ _ _ _ _ _ _ _)
   | (with_reducible exact carouselref1_Held.mono _ _ _ _ _ _)
   | (with_reducible exact LeO.refl _)
   | (with_reducible exact LeO.none _)
   | (with_reducible refine LeO.ite ?_ ?_)
   | (with_reducible refine LeO.bind ?_ (fun _ => ?_))
   | exact ih0 _ _ _ _ _ _ _
   | exact ih1 _ _ _ _ _ _ _
   | exact ih2 _ _ _ _ _ _ _ _ _ _ _ _ _
   | exact ih3 _ _ _ _ _ _ _ _ _ _ _ _ _ _
   | exact ih4 _ _ _ _ _ _ _ _ _ _ _ _ _ _ _ _ _ _ _ _
   | exact ih5 _ _ _ _ _ _ _ _ _ _ _ _ _ _ _ _ _ _ _ _ _ _
   | exact ih6 _ _ _ _ _ _ _ _ _ _ _ _ _ _ _ _ _ _ _ _ _ _
   | exact carouselref1_Held.mono _ _ _ _ _ _
   | exact LeO.none _
   | refine LeO.ite ?_ ?_
   | refine LeO.bind ?_ (fun _ => ?_)
  ·intro y0 y1 y2 y3 y4 y5 y6 y7 y8 y9 y10 y11 y12 y13 y14 y15 y16 y17 y18 y19 y20 y21
   unfold carouselref5_BackIn.j5
   repeat' first
   | (with_reducible exact ih0 _ _ _ _ _ _ _)
   | (with_reducible exact ih1 _ _ _ _ _ _ _)
   | (with_reducible exact ih2 _ _ _ _ _ _ _ _ _ _ _ _ _)
   | (with_reducible exact ih3 _ _ _ _ _ _ _ _ _ _ _ _ _ _)
   | (with_reducible exact ih4 _ _ _ _ _ _ _ _ _ _ _ _ _ _ _ _ _ _ _ _)
   | (with_reducible exact ih5 _ _ _ _ _ _ _ _ _ _ _ _ _ _ _ _ _ _ _ _ _ _)
   | (with_reducible exact ih6 _ _ _ _ _ _ _ _ _ _ _ _ _ _ _ _ _ _ _ _ _ _)
   | (with_reducible exact LeO.refl _)
   | (with_reducible exact LeO.none _)
   | (with_reducible refine LeO.ite ?_ ?_)
   | (with_reducible refine LeO.bind ?_ (fun _ => ?_))
   | exact ih0 _ _ _ _ _ _ _
   | exact ih1 _ _ _ _ _ _ _
   | exact ih2 _ _ _ _ _ _ _ _ _ _ _ _ _
   | exact ih3 _ _ _ _ _ _ _ _ _ _ _ _ _ _
   | exact ih4 _ _ _ _ _ _ _ _ _ _ _ _ _ _ _ _ _ _ _ _
   | exact ih5 _ _ _ _ _ _ _ _ _ _ _ _ _ _ _ _ _ _ _ _ _ _
   | exact ih6 _ _ _ _ _ _ _ _ _ _ _ _ _ _ _ _ _ _ _ _ _ _
   | exact LeO.none _
   | refine LeO.ite ?_ ?_
   | refine LeO.bind ?_ (fun _ => ?_)
  ·intro y0 y1 y2 y3 y4 y5 y6 y7 y8 y9 y10 y11 y12 y13 y14 y15 y16 y17 y18 y19 y20 y21
   unfold carouselref5_BackIn.l3
   repeat' first
   | (with_reducible exact ih0 _ _ _ _ _ _ _)
   | (with_reducible exact ih1 _ _ _ _ _ _ _)
   | (with_reducible exact ih2 _ _ _ _ _ _ _ _ _ _ _ _ _)
   | (with_reducible exact ih3 _ _ _ _ _ _ _ _ _ _ _ _ _ _)
   | (with_reducible exact ih4 _ _ _ _ _ _ _ _ _ _ _ _ _ _ _ _ _ _ _ _)
   | (with_reducible exact ih5 _ _ _ _ _ _ _ _ _ _ _ _ _ _ _ _ _ _ _ _ _ _)
   | (with_reducible exact ih6 _ _ _ _ _ _ _ _ _ _ _ _ _ _ _ _ _ _ _ _ _ _)
   | (with_reducible exact LeO.refl _)
   | (with_reducible exact LeO.none _)
   | (with_reducible refine LeO.ite ?_ ?_)
   | (with_reducible refine LeO.bind ?_ (fun _ => ?_))
   | exact ih0 _ _ _ _ _ _ _
   | exact ih1 _ _ _ _ _ _ _
   | exact ih2 _ _ _ _ _ _ _ _ _ _ _ _ _
   | exact ih3 _ _ _ _ _ _ _ _ _ _ _ _ _ _
   | exact ih4 _ _ _ _ _ _ _ _ _ _ _ _ _ _ _ _ _ _ _ _
   | exact ih5 _ _ _ _ _ _ _ _ _ _ _ _ _ _ _ _ _ _ _ _ _ _
   | exact ih6 _ _ _ _ _ _ _ _ _ _ _ _ _ _ _ _ _ _ _ _ _ _
   | exact LeO.none _
   | refine LeO.ite ?_ ?_
   | refine LeO.bind ?_ (fun _ => ?_)
theorem carouselref5_BackIn.mono : ∀ a0 a1 a2 a3 a4 a5 k, LeO (carouselref5_BackIn.f k a0 a1 a2 a3 a4 a5) (carouselref5_BackIn.f (k + 1) a0 a1 a2 a3 a4 a5) := by
 intro a0 a1 a2 a3 a4 a5 k
 obtain ⟨ih0, ih1, ih2, ih3, ih4, ih5, ih6⟩ := carouselref5_BackIn.mono_l k
 unfold carouselref5_BackIn.f
 repeat' first
   | (with_reducible exact ih0 _ _ _ _ _ _ _)
   | (with_reducible exact ih1 _ _ _ _ _ _ _)
   | (with_reducible exact ih2 _ _ _ _ _ _ _ _ _ _ _ _ _)
   | (with_reducible exact ih3 _ _ _ _ _ _ _ _ _ _ _ _ _ _)
   | (with_reducible exact ih4 _ _ _ _ _ _ _ _ _ _ _ _ _ _ _ _ _ _ _ _)
   | (with_reducible exact ih5 _ _ _ _ _ _ _ _ _ _ _ _ _ _ _ _ _ _ _ _ _ _)
   | (with_reducible exact ih6 _ _ _ _ _ _ _ _ _ _ _ _ _ _ _ _ _ _ _ _ _ _)
   | (with_reducible exact carouselref5_Is.mono _ _ _)
   | (with_reducible exact LeO.refl _)
   | (with_reducible exact LeO.none _)
   | (with_reducible refine LeO.ite ?_ ?_)
   | (with_reducible refine LeO.bind ?_ (fun _ => ?_))
   | exact ih0 _ _ _ _ _ _ _
   | exact ih1 _ _ _ _ _ _ _
   | exact ih2 _ _ _ _ _ _ _ _ _ _ _ _ _
   | exact ih3 _ _ _ _ _ _ _ _ _ _ _ _ _ _
   | exact ih4 _ _ _ _ _ _ _ _ _ _ _ _ _ _ _ _ _ _ _ _
   | exact ih5 _ _ _ _ _ _ _ _ _ _ _ _ _ _ _ _ _ _ _ _ _ _
   | exact ih6 _ _ _ _ _ _ _ _ _ _ _ _ _ _ _ _ _ _ _ _ _ _
   | exact carouselref5_Is.mono _ _ _
   | exact LeO.none _
   | refine LeO.ite ?_ ?_
   | refine LeO.bind ?_ (fun _ => ?_)
def carouselref5_BackIn.T3 : Bool × List (List Nat × List Nat) := (true, [([], []), ([0], [0]), ([1], [1]), ([2], [2]), ([3], [3]), ([4], [4]), ([5, 4], [4, 5]), ([6, 4], [4, 6]), ([7, 4], [4, 7]), ([4, 8], [4, 8]), ([9, 4], [9]), ([10], [10]), ([11, 10], [10, 11]), ([12, 10], [10, 12]), ([13, 10], [10, 13]), ([10], [10]), ([15, 10], [10, 15]), ([16, 10], [10, 16]), ([17, 10], [10, 17]), ([14, 18, 10], [10, 14, 18]), ([10, 19], [10, 19]), ([20, 10], [20]), ([21], [21]), ([22, 21], [21, 22]), ([23, 21], [21, 23]), ([24, 21], [21, 24]), ([21], [21]), ([25, 26, 21], [21, 25, 26]), ([21, 27], [21, 27]), ([28, 21], [28]), ([29], [29]), ([30, 29], [29, 30]), ([31, 29], [29, 31]), ([32, 29], [29, 32]), ([29], [29]), ([29], [29]), ([35, 29], [29, 35]), ([36, 29], [29, 36]), ([37, 29], [29, 37]), ([34, 38, 29], [29, 34, 38]), ([29], [29]), ([39, 40, 29], [29, 39, 40]), ([41, 29], [29, 41]), ([33, 42, 29], [29, 33, 42]), ([29, 43], [29, 43])])
def carouselref5_BackIn.B3 : List Nat := [0, 1, 3, 7, 15, 31, 63, 127, 255, 511, 1023, 2047, 4095, 8191, 16383, 2047, 34815, 100351, 231423, 524287, 1048575, 2097151, 4194303, 8388607, 16777215, 33554431, 4194303, 134217727, 268435455, 536870911, 1073741823, 2147483647, 4294967295, 8589934591, 1073741823, 1073741823, 35433480191, 104152956927, 241591910399, 533649686527, 1073741823, 2182917128191, 4381940383743, 8796093022207, 17592186044415]
theorem carouselref5_BackIn.tab3 : rtab .any (opsOf Try.f23 3) = carouselref5_BackIn.T3 := by kernel_rfl
theorem carouselref5_BackIn.bits3 : waitsOk carouselref5_BackIn.T3.2 carouselref5_BackIn.B3 = true := by kernel_rfl
def carouselref5_BackIn.T5 : Bool × List (List Nat × List Nat) := (true, [([], []), ([0], [0]), ([1], [1]), ([2], [2]), ([], []), ([4], [4]), ([5], [5]), ([6], [6]), ([], []), ([8], [8]), ([9], [9]), ([10], [10]), ([], []), ([12], [12]), ([13], [13]), ([14], [14]), ([3, 0, 1, 2, 3], [3]), ([7, 16, 0, 1, 2, 3, 4, 5, 6, 7, 16], [7]), ([11, 17, 0, 1, 2, 3, 4, 5, 6, 7, 8, 9, 10, 11, 16, 17], [11]), ([15, 18, 0, 1, 2, 3, 4, 5, 6, 7, 8, 9, 10, 11, 12, 13, 14, 15, 16, 17, 18], [15])])
def carouselref5_BackIn.B5 : List Nat := [0, 1, 3, 7, 0, 16, 48, 112, 0, 256, 768, 1792, 0, 4096, 12288, 28672, 15, 65791, 200703, 524287]
theorem carouselref5_BackIn.tab5 : rtab .any (opsOf Try.f23 5) = carouselref5_BackIn.T5 := by kernel_rfl
theorem carouselref5_BackIn.bits5 : waitsOk carouselref5_BackIn.T5.2 carouselref5_BackIn.B5 = true := by kernel_rfl
def carouselref5_BackIn.T24 : Bool × List (List Nat × List Nat) := (true, [([], []), ([], []), ([1], [1]), ([], []), ([], []), ([3, 4], [3, 4]), ([], []), ([5, 6], [5, 6]), ([2, 7], [2, 7]), ([8], [8]), ([], []), ([10], [10]), ([], []), ([], []), ([12, 13], [12, 13]), ([], []), ([14, 15], [14, 15]), ([], []), ([16, 17], [16, 17]), ([], []), ([18, 19], [18, 19]), ([11, 20], [11, 20]), ([21], [21]), ([9, 22], [9, 22]), ([0, 23, 23], [0, 23]), ([24, 24, 0, 1, 2, 3, 4, 5, 6, 7, 8, 9, 10, 11, 12, 13, 14, 15, 16, 17, 18, 19, 20, 21, 22, 23, 24], [24])])
def carouselref5_BackIn.B24 : List Nat := [0, 0, 2, 0, 0, 24, 0, 120, 254, 510, 0, 1024, 0, 0, 12288, 0, 61440, 0, 258048, 0, 1044480, 2096128, 4193280, 8388606, 16777215, 33554431]
theorem carouselref5_BackIn.tab24 : rtab .any (opsOf Try.f23 24) = carouselref5_BackIn.T24 := by kernel_rfl
theorem carouselref5_BackIn.bits24 : waitsOk carouselref5_BackIn.T24.2 carouselref5_BackIn.B24 = true := by kernel_rfl
def carouselref5_BackIn.T25 : Bool × List (List Nat × List Nat) := (true, [([], []), ([0], [0]), ([], []), ([], []), ([2, 3], [2, 3]), ([], []), ([4, 5], [4, 5]), ([], []), ([7], [7]), ([8, 8], [8]), ([1, 6, 0, 1, 2, 3, 4, 5, 6, 7, 8, 9], [1, 6]), ([10, 9, 9, 0, 1, 2, 3, 4, 5, 6, 7, 8, 9], [9, 10])])
def carouselref5_BackIn.B25 : List Nat := [0, 1, 0, 0, 12, 0, 60, 0, 128, 384, 1023, 2047]
theorem carouselref5_BackIn.tab25 : rtab .any (opsOf Try.f23 25) = carouselref5_BackIn.T25 := by kernel_rfl
theorem carouselref5_BackIn.bits25 : waitsOk carouselref5_BackIn.T25.2 carouselref5_BackIn.B25 = true := by kernel_rfl
set_option maxHeartbeats 8000000 in
set_option maxRecDepth 100000 in
theorem carouselref5_BackIn.calls (k : Nat) (A0_0 : Option Addr) (c0_0 : Nat) (l0_0 : List Int) (A0_1 : Option Addr) (c0_1 : Nat) (l0_1 : List Int) (A1_0 : Option Addr) (c1_0 : Nat) (l1_0 : List Int) (A1_1 : Option Addr) (c1_1 : Nat) (l1_1 : List Int) (a2 : Int) (a3 : Int) (r1 : List Int) (r2 : List Int) (r3 : Int) (w : World) (hr0_0 : Kd.C (Kd.int .i64) w A0_0 l0_0.length l0_0) (hc0_0 : l0_0.length ≤ c0_0) (hr0_1 : Kd.C (Kd.int .i64) w A0_1 l0_1.length l0_1) (hc0_1 : l0_1.length ≤ c0_1) (hr1_0 : Kd.C (Kd.int .i64) w A1_0 l1_0.length l1_0) (hc1_0 : l1_0.length ≤ c1_0) (hr1_1 : Kd.C (Kd.int .i64) w A1_1 l1_1.length l1_1) (hc1_1 : l1_1.length ≤ c1_1) (h : carouselref5_BackIn.f k l0_0 l0_1 l1_0 l1_1 a2 a3 = some (r1, r2, r3)) :
  Calls Try.prog 23 #[.agg #[.slice A0_0 l0_0.length c0_0, .slice A0_1 l0_1.length c0_1], .agg #[.slice A1_0 l1_0.length c1_0, .slice A1_1 l1_1.length c1_1], .int .i64 a2, .int .i64 a3] w fun e w' => ∃ v0_ v1_ : Value, e = .returned (.tuple #[.agg #[v0_, v1_], .int .i64 r3]) ∧ Kd.R (Kd.int .i64) 3 w' w.heap.size (fun _ => True) v0_ r1 ∧ Kd.R (Kd.int .i64) 33 w' w.heap.size (fun _ => True) v1_ r2 ∧ Below w.heap.size w w' := by
 have hu25 := Try.underlying25
 have hu61 := Try.underlying61
 have HR0_0 := Aside0.mk hr0_0
 have HC0_0 := Aside0.mk hc0_0
 clear hr0_0 hc0_0
 have HR0_1 := Aside0.mk hr0_1
 have HC0_1 := Aside0.mk hc0_1
 clear hr0_1 hc0_1
 have HR1_0 := Aside0.mk hr1_0
 have HC1_0 := Aside0.mk hc1_0
 clear hr1_0 hc1_0
 have HR1_1 := Aside0.mk hr1_1
 have HC1_1 := Aside0.mk hc1_1
 clear hr1_1 hc1_1
 have HB := Aside0.mk (Below.refl w.heap.size w)
 have H : ((carouselref5_Is.f k l0_0 l0_1).bind fun t317 => (if t317 = true then ((carouselref5_Is.f k l1_0 l1_1).bind fun t318 => (if t318 = true then (if a2 < 1 then (carouselref5_BackIn.j0 k a2 a3 true l0_0 l0_1 l1_0 l1_1) else (if a2 > 64 then (carouselref5_BackIn.j0 k a2 a3 true l0_0 l0_1 l1_0 l1_1) else (if a3 < 1 then (carouselref5_BackIn.j0 k a2 a3 true l0_0 l0_1 l1_0 l1_1) else (carouselref5_BackIn.j0 k a2 a3 (decide (a3 > 4096)) l0_0 l0_1 l1_0 l1_1)))) else (carouselref5_BackIn.j0 k a2 a3 true l0_0 l0_1 l1_0 l1_1))) else (carouselref5_BackIn.j0 k a2 a3 true l0_0 l0_1 l1_0 l1_1))) = some (r1, r2, r3) := h
 clear h
 have HC5 := Aside0.mk H
 clear H
 go_enter Try.func23, Try.ntmps23
 go_upto_region 1 with (first | ((with_reducible refine gate_dst (N := 4) rfl ?_); (try (refine gate_guard (by rfl) ?_; dsimp only)); refine box_event ?hg (N := 4) ?hd (cs := #[.slice A0_0 l0_0.length c0_0, .slice A0_1 l0_1.length c0_1]) (t := 25) ?hr ?_; (case hd => rfl); (case hg => rfl); (case hr => first | (go_simp; done) | (go_simp; rfl)); intro gb314 hg w6 hbox hb; have BK314 := Aside0.mk (hbox); have GW314 := Aside0.mk (zs_ hg (zw0_ HB)); have GE314 := Aside0.mk (zs_ hg (zw0_ HB)); replace HB := Aside0.mk (below_step (zw0_ HB) hb); clear hb hbox hg) | ((with_reducible refine gate_dst (N := 5) rfl ?_); (try (refine gate_guard (by rfl) ?_; dsimp only)); refine box_event ?hg (N := 5) ?hd (cs := #[.slice A1_0 l1_0.length c1_0, .slice A1_1 l1_1.length c1_1]) (t := 25) ?hr ?_; (case hd => rfl); (case hg => rfl); (case hr => first | (go_simp; done) | (go_simp; rfl)); intro gb315 hg w7 hbox hb; have BK315 := Aside0.mk (hbox); have GW315 := Aside0.mk (zs_ hg (zw1_ HB GE314)); have GE315 := Aside0.mk (zs_ hg (zw1_ HB GE314)); replace HB := Aside0.mk (below_step (zw1_ HB GE314) hb); have NB314_315 := Aside0.mk (zn_ hg BK314); have NB315_314 := Aside0.mk (zm_ hg BK314); replace BK314 := za_ BK314 hb; clear hb hbox hg) | ((with_reducible refine gate_dst (N := 8) rfl ?_); (try (refine gate_guard (by rfl) ?_; dsimp only)); refine box_event ?hg (N := 8) ?hd (cs := #[.slice none 0 0, .slice none 0 0]) (t := 25) ?hr ?_; (case hd => rfl); (case hg => rfl); (case hr => first | (go_simp; done) | (go_simp; rfl)); intro gb316 hg w8 hbox hb; have BK316 := Aside0.mk (hbox); have GW316 := Aside0.mk (zs_ hg (zw2_ HB GE314 GE315)); have GE316 := Aside0.mk (zs_ hg (zw2_ HB GE314 GE315)); replace HB := Aside0.mk (below_step (zw2_ HB GE314 GE315) hb); have NB314_316 := Aside0.mk (zn_ hg BK314); have NB316_314 := Aside0.mk (zm_ hg BK314); replace BK314 := za_ BK314 hb; have NB315_316 := Aside0.mk (zn_ hg BK315); have NB316_315 := Aside0.mk (zm_ hg BK315); replace BK315 := za_ BK315 hb; clear hb hbox hg))
 (try simp only [Act.put, List.setIfInBounds_toArray, List.set_cons_zero, List.set_cons_succ])
 go_cut [44] (fun v44 wc => ∃ (kq : Nat) (x44_4 : Bool), v44 = .bool x44_4 ∧ Aside0 (carouselref5_BackIn.j0 kq a2 a3 x44_4 l0_0 l0_1 l1_0 l1_1 = some (r1, r2, r3)) ∧ Aside0 (kq ≤ k) ∧ Aside0 (wc.heap[gb314]? = some (.cells #[(.slice A0_0 l0_0.length c0_0), (.slice A0_1 l0_1.length c0_1)] 25 (0, 0))) ∧ Aside0 (wc.heap[gb315]? = some (.cells #[(.slice A1_0 l1_0.length c1_0), (.slice A1_1 l1_1.length c1_1)] 25 (0, 0))) ∧ Aside0 (wc.heap[gb316]? = some (.cells #[(.slice none 0 0), (.slice none 0 0)] 25 (0, 0))) ∧ Aside0 (Below w.heap.size w wc))
 case first =>
  have H := HC5.out
  clear HC5
  replace H := Option.bind_eq_some_iff.mp H
  obtain ⟨t317, A90, H⟩ := H
  (try dsimp only at H)
  have A9 := Aside0.mk A90
  clear A90
  by_cases c10 : t317 = true
  rotate_left
  ·replace c10 := Bool.eq_false_iff.mpr c10
   subst c10
   have H1 : (carouselref5_BackIn.j0 k a2 a3 true l0_0 l0_1 l1_0 l1_1) = some (r1, r2, r3) := by rw [if_neg (show ¬ (false = true) by decide)] at H; exact H
   clear H
   have H := H1
   clear H1
   have H' := Aside0.mk H
   clear H
   have hnb51 := NB314_315.out
   have hnc51 := NB315_314.out
   have hnb52 := NB314_316.out
   have hnc52 := NB316_314.out
   have hcz53_0 := zx_ (v := .slice A0_0 l0_0.length c0_0) BK314 0
   have hcz53_1 := zx_ (v := .slice A0_1 l0_1.length c0_1) BK314 1
   have hfz53_0 := blk_frozen BK314.out 0
   have hfz53_1 := blk_frozen BK314.out 1
   go_wp2_with (first | ((with_reducible refine gate_callee (f := 32) rfl ?_); refine zg_ (some 22) Try.func32 #[.agg #[.slice A0_0 l0_0.length c0_0, .slice A0_1 l0_1.length c0_1]] (h := ?_); (with_reducible refine (carouselref5_Is.calls k _ _ l0_0 _ _ l0_1 false _ ?side1 ?side2 ?side3 ?side4 A9.out).mono ?_); (case side1 => exact zk_ (Kd.C_below HR0_0.out HB.out)); (case side2 => exact HC0_0.out); (case side3 => exact zk_ (Kd.C_below HR0_1.out HB.out)); (case side4 => exact HC0_1.out); rintro e w54 ⟨rfl, hb⟩; refine ⟨_, rfl, ?_⟩; replace BK314 := za_ BK314 hb; replace BK315 := za_ BK315 hb; replace BK316 := za_ BK316 hb; replace HB := Aside0.mk (below_step (zw3_ HB GE314 GE315 GE316) hb); (try clear hb)))
   go_meet
   case rel => exact ⟨_, (true), z1_, H', ⟨by first | omega | exact Nat.le_refl _⟩, ⟨zb_ BK314⟩, ⟨zb_ BK315⟩, ⟨zb_ BK316⟩, ⟨zw3_ HB GE314 GE315 GE316⟩⟩
  subst c10
  have H1 := H
  rw [if_pos rfl] at H1
  clear H
  have H := H1
  clear H1
  replace H := Option.bind_eq_some_iff.mp H
  obtain ⟨t318, A110, H⟩ := H
  (try dsimp only at H)
  have A11 := Aside0.mk A110
  clear A110
  by_cases c12 : t318 = true
  rotate_left
  ·replace c12 := Bool.eq_false_iff.mpr c12
   subst c12
   have H1 := H
   rw [if_neg (show ¬ (false = true) by decide)] at H1
   clear H
   have H := H1
   clear H1
   have H' := Aside0.mk H
   clear H
   have hnb44 := NB314_315.out
   have hnc44 := NB315_314.out
   have hnb45 := NB314_316.out
   have hnc45 := NB316_314.out
   have hcz46_0 := zx_ (v := .slice A0_0 l0_0.length c0_0) BK314 0
   have hcz46_1 := zx_ (v := .slice A0_1 l0_1.length c0_1) BK314 1
   have hfz46_0 := blk_frozen BK314.out 0
   have hfz46_1 := blk_frozen BK314.out 1
   go_wp2_with (first | ((with_reducible refine gate_callee (f := 32) rfl ?_); refine zg_ (some 22) Try.func32 #[.agg #[.slice A0_0 l0_0.length c0_0, .slice A0_1 l0_1.length c0_1]] (h := ?_); (with_reducible refine (carouselref5_Is.calls k _ _ l0_0 _ _ l0_1 true _ ?side1 ?side2 ?side3 ?side4 A9.out).mono ?_); (case side1 => exact zk_ (Kd.C_below HR0_0.out HB.out)); (case side2 => exact HC0_0.out); (case side3 => exact zk_ (Kd.C_below HR0_1.out HB.out)); (case side4 => exact HC0_1.out); rintro e w47 ⟨rfl, hb⟩; refine ⟨_, rfl, ?_⟩; replace BK314 := za_ BK314 hb; replace BK315 := za_ BK315 hb; replace BK316 := za_ BK316 hb; replace HB := Aside0.mk (below_step (zw3_ HB GE314 GE315 GE316) hb); (try clear hb); have hnb48 := NB315_316.out; have hnc48 := NB316_315.out; have hcz49_0 := zx_ (v := .slice A1_0 l1_0.length c1_0) BK315 0; have hcz49_1 := zx_ (v := .slice A1_1 l1_1.length c1_1) BK315 1; have hfz49_0 := blk_frozen BK315.out 0; have hfz49_1 := blk_frozen BK315.out 1) | (go_at_call 32; (with_reducible refine (carouselref5_Is.calls k _ _ l1_0 _ _ l1_1 false _ ?side1 ?side2 ?side3 ?side4 A11.out).mono ?_); (case side1 => exact zk_ (Kd.C_below HR1_0.out HB.out)); (case side2 => exact HC1_0.out); (case side3 => exact zk_ (Kd.C_below HR1_1.out HB.out)); (case side4 => exact HC1_1.out); rintro e w50 ⟨rfl, hb⟩; replace BK314 := za_ BK314 hb; replace BK315 := za_ BK315 hb; replace BK316 := za_ BK316 hb; replace HB := Aside0.mk (below_step (zw3_ HB GE314 GE315 GE316) hb); (try clear hb)))
   go_meet
   case rel => exact ⟨_, (true), z1_, H', ⟨by first | omega | exact Nat.le_refl _⟩, ⟨zb_ BK314⟩, ⟨zb_ BK315⟩, ⟨zb_ BK316⟩, ⟨zw3_ HB GE314 GE315 GE316⟩⟩
  subst c12
  have H1 := H
  rw [if_pos rfl] at H1
  clear H
  have H := H1
  clear H1
  by_cases c13 : a2 < 1
  ·rw [if_pos c13] at H
   have c13b0 : decide (a2 < 1) = true := decide_eq_true c13
   clear c13
   (first | rw [c13b0] | (simp only [i64_w, i32_w]; rw [c13b0]) | skip)
   have H' := Aside0.mk H
   clear H
   have hnb14 := NB314_315.out
   have hnc14 := NB315_314.out
   have hnb15 := NB314_316.out
   have hnc15 := NB316_314.out
   have hcz16_0 := zx_ (v := .slice A0_0 l0_0.length c0_0) BK314 0
   have hcz16_1 := zx_ (v := .slice A0_1 l0_1.length c0_1) BK314 1
   have hfz16_0 := blk_frozen BK314.out 0
   have hfz16_1 := blk_frozen BK314.out 1
   go_wp2_with (first | ((with_reducible refine gate_callee (f := 32) rfl ?_); refine zg_ (some 22) Try.func32 #[.agg #[.slice A0_0 l0_0.length c0_0, .slice A0_1 l0_1.length c0_1]] (h := ?_); (with_reducible refine (carouselref5_Is.calls k _ _ l0_0 _ _ l0_1 true _ ?side1 ?side2 ?side3 ?side4 A9.out).mono ?_); (case side1 => exact zk_ (Kd.C_below HR0_0.out HB.out)); (case side2 => exact HC0_0.out); (case side3 => exact zk_ (Kd.C_below HR0_1.out HB.out)); (case side4 => exact HC0_1.out); rintro e w17 ⟨rfl, hb⟩; refine ⟨_, rfl, ?_⟩; replace BK314 := za_ BK314 hb; replace BK315 := za_ BK315 hb; replace BK316 := za_ BK316 hb; replace HB := Aside0.mk (below_step (zw3_ HB GE314 GE315 GE316) hb); (try clear hb); have hnb18 := NB315_316.out; have hnc18 := NB316_315.out; have hcz19_0 := zx_ (v := .slice A1_0 l1_0.length c1_0) BK315 0; have hcz19_1 := zx_ (v := .slice A1_1 l1_1.length c1_1) BK315 1; have hfz19_0 := blk_frozen BK315.out 0; have hfz19_1 := blk_frozen BK315.out 1) | (go_at_call 32; (with_reducible refine (carouselref5_Is.calls k _ _ l1_0 _ _ l1_1 true _ ?side1 ?side2 ?side3 ?side4 A11.out).mono ?_); (case side1 => exact zk_ (Kd.C_below HR1_0.out HB.out)); (case side2 => exact HC1_0.out); (case side3 => exact zk_ (Kd.C_below HR1_1.out HB.out)); (case side4 => exact HC1_1.out); rintro e w20 ⟨rfl, hb⟩; replace BK314 := za_ BK314 hb; replace BK315 := za_ BK315 hb; replace BK316 := za_ BK316 hb; replace HB := Aside0.mk (below_step (zw3_ HB GE314 GE315 GE316) hb); (try clear hb)))
   go_meet
   case rel => exact ⟨_, (true), z1_, H', ⟨by first | omega | exact Nat.le_refl _⟩, ⟨zb_ BK314⟩, ⟨zb_ BK315⟩, ⟨zb_ BK316⟩, ⟨zw3_ HB GE314 GE315 GE316⟩⟩
  rw [if_neg c13] at H
  have c13b0 : decide (a2 < 1) = false := decide_eq_false c13
  clear c13
  (first | rw [c13b0] | (simp only [i64_w, i32_w]; rw [c13b0]) | skip)
  by_cases c21 : a2 > 64
  ·rw [if_pos c21] at H
   have c21b0 : decide (64 < a2) = true := decide_eq_true c21
   clear c21
   have H' := Aside0.mk H
   clear H
   have hnb22 := NB314_315.out
   have hnc22 := NB315_314.out
   have hnb23 := NB314_316.out
   have hnc23 := NB316_314.out
   have hcz24_0 := zx_ (v := .slice A0_0 l0_0.length c0_0) BK314 0
   have hcz24_1 := zx_ (v := .slice A0_1 l0_1.length c0_1) BK314 1
   have hfz24_0 := blk_frozen BK314.out 0
   have hfz24_1 := blk_frozen BK314.out 1
   go_wp2_with (first | ((with_reducible refine gate_callee (f := 32) rfl ?_); refine zg_ (some 22) Try.func32 #[.agg #[.slice A0_0 l0_0.length c0_0, .slice A0_1 l0_1.length c0_1]] (h := ?_); (with_reducible refine (carouselref5_Is.calls k _ _ l0_0 _ _ l0_1 true _ ?side1 ?side2 ?side3 ?side4 A9.out).mono ?_); (case side1 => exact zk_ (Kd.C_below HR0_0.out HB.out)); (case side2 => exact HC0_0.out); (case side3 => exact zk_ (Kd.C_below HR0_1.out HB.out)); (case side4 => exact HC0_1.out); rintro e w25 ⟨rfl, hb⟩; refine ⟨_, rfl, ?_⟩; replace BK314 := za_ BK314 hb; replace BK315 := za_ BK315 hb; replace BK316 := za_ BK316 hb; replace HB := Aside0.mk (below_step (zw3_ HB GE314 GE315 GE316) hb); (try clear hb); have hnb26 := NB315_316.out; have hnc26 := NB316_315.out; have hcz27_0 := zx_ (v := .slice A1_0 l1_0.length c1_0) BK315 0; have hcz27_1 := zx_ (v := .slice A1_1 l1_1.length c1_1) BK315 1; have hfz27_0 := blk_frozen BK315.out 0; have hfz27_1 := blk_frozen BK315.out 1) | (go_at_call 32; (with_reducible refine (carouselref5_Is.calls k _ _ l1_0 _ _ l1_1 true _ ?side1 ?side2 ?side3 ?side4 A11.out).mono ?_); (case side1 => exact zk_ (Kd.C_below HR1_0.out HB.out)); (case side2 => exact HC1_0.out); (case side3 => exact zk_ (Kd.C_below HR1_1.out HB.out)); (case side4 => exact HC1_1.out); rintro e w28 ⟨rfl, hb⟩; replace BK314 := za_ BK314 hb; replace BK315 := za_ BK315 hb; replace BK316 := za_ BK316 hb; replace HB := Aside0.mk (below_step (zw3_ HB GE314 GE315 GE316) hb); (try clear hb)))
   go_meet
   case rel => exact ⟨_, (true), z1_, H', ⟨by first | omega | exact Nat.le_refl _⟩, ⟨zb_ BK314⟩, ⟨zb_ BK315⟩, ⟨zb_ BK316⟩, ⟨zw3_ HB GE314 GE315 GE316⟩⟩
  rw [if_neg c21] at H
  have c21b0 : decide (64 < a2) = false := decide_eq_false c21
  clear c21
  by_cases c29 : a3 < 1
  ·rw [if_pos c29] at H
   have c29b0 : decide (a3 < 1) = true := decide_eq_true c29
   clear c29
   have H' := Aside0.mk H
   clear H
   have hnb30 := NB314_315.out
   have hnc30 := NB315_314.out
   have hnb31 := NB314_316.out
   have hnc31 := NB316_314.out
   have hcz32_0 := zx_ (v := .slice A0_0 l0_0.length c0_0) BK314 0
   have hcz32_1 := zx_ (v := .slice A0_1 l0_1.length c0_1) BK314 1
   have hfz32_0 := blk_frozen BK314.out 0
   have hfz32_1 := blk_frozen BK314.out 1
   go_wp2_with (first | ((with_reducible refine gate_callee (f := 32) rfl ?_); refine zg_ (some 22) Try.func32 #[.agg #[.slice A0_0 l0_0.length c0_0, .slice A0_1 l0_1.length c0_1]] (h := ?_); (with_reducible refine (carouselref5_Is.calls k _ _ l0_0 _ _ l0_1 true _ ?side1 ?side2 ?side3 ?side4 A9.out).mono ?_); (case side1 => exact zk_ (Kd.C_below HR0_0.out HB.out)); (case side2 => exact HC0_0.out); (case side3 => exact zk_ (Kd.C_below HR0_1.out HB.out)); (case side4 => exact HC0_1.out); rintro e w33 ⟨rfl, hb⟩; refine ⟨_, rfl, ?_⟩; replace BK314 := za_ BK314 hb; replace BK315 := za_ BK315 hb; replace BK316 := za_ BK316 hb; replace HB := Aside0.mk (below_step (zw3_ HB GE314 GE315 GE316) hb); (try clear hb); have hnb34 := NB315_316.out; have hnc34 := NB316_315.out; have hcz35_0 := zx_ (v := .slice A1_0 l1_0.length c1_0) BK315 0; have hcz35_1 := zx_ (v := .slice A1_1 l1_1.length c1_1) BK315 1; have hfz35_0 := blk_frozen BK315.out 0; have hfz35_1 := blk_frozen BK315.out 1) | (go_at_call 32; (with_reducible refine (carouselref5_Is.calls k _ _ l1_0 _ _ l1_1 true _ ?side1 ?side2 ?side3 ?side4 A11.out).mono ?_); (case side1 => exact zk_ (Kd.C_below HR1_0.out HB.out)); (case side2 => exact HC1_0.out); (case side3 => exact zk_ (Kd.C_below HR1_1.out HB.out)); (case side4 => exact HC1_1.out); rintro e w36 ⟨rfl, hb⟩; replace BK314 := za_ BK314 hb; replace BK315 := za_ BK315 hb; replace BK316 := za_ BK316 hb; replace HB := Aside0.mk (below_step (zw3_ HB GE314 GE315 GE316) hb); (try clear hb)))
   go_meet
   case rel => exact ⟨_, (true), z1_, H', ⟨by first | omega | exact Nat.le_refl _⟩, ⟨zb_ BK314⟩, ⟨zb_ BK315⟩, ⟨zb_ BK316⟩, ⟨zw3_ HB GE314 GE315 GE316⟩⟩
  rw [if_neg c29] at H
  have c29b0 : decide (a3 < 1) = false := decide_eq_false c29
  clear c29
  have H' := Aside0.mk H
  clear H
  have hnb37 := NB314_315.out
  have hnc37 := NB315_314.out
  have hnb38 := NB314_316.out
  have hnc38 := NB316_314.out
  have hcz39_0 := zx_ (v := .slice A0_0 l0_0.length c0_0) BK314 0
  have hcz39_1 := zx_ (v := .slice A0_1 l0_1.length c0_1) BK314 1
  have hfz39_0 := blk_frozen BK314.out 0
  have hfz39_1 := blk_frozen BK314.out 1
  go_wp2_with (first | ((with_reducible refine gate_callee (f := 32) rfl ?_); refine zg_ (some 22) Try.func32 #[.agg #[.slice A0_0 l0_0.length c0_0, .slice A0_1 l0_1.length c0_1]] (h := ?_); (with_reducible refine (carouselref5_Is.calls k _ _ l0_0 _ _ l0_1 true _ ?side1 ?side2 ?side3 ?side4 A9.out).mono ?_); (case side1 => exact zk_ (Kd.C_below HR0_0.out HB.out)); (case side2 => exact HC0_0.out); (case side3 => exact zk_ (Kd.C_below HR0_1.out HB.out)); (case side4 => exact HC0_1.out); rintro e w40 ⟨rfl, hb⟩; refine ⟨_, rfl, ?_⟩; replace BK314 := za_ BK314 hb; replace BK315 := za_ BK315 hb; replace BK316 := za_ BK316 hb; replace HB := Aside0.mk (below_step (zw3_ HB GE314 GE315 GE316) hb); (try clear hb); have hnb41 := NB315_316.out; have hnc41 := NB316_315.out; have hcz42_0 := zx_ (v := .slice A1_0 l1_0.length c1_0) BK315 0; have hcz42_1 := zx_ (v := .slice A1_1 l1_1.length c1_1) BK315 1; have hfz42_0 := blk_frozen BK315.out 0; have hfz42_1 := blk_frozen BK315.out 1) | (go_at_call 32; (with_reducible refine (carouselref5_Is.calls k _ _ l1_0 _ _ l1_1 true _ ?side1 ?side2 ?side3 ?side4 A11.out).mono ?_); (case side1 => exact zk_ (Kd.C_below HR1_0.out HB.out)); (case side2 => exact HC1_0.out); (case side3 => exact zk_ (Kd.C_below HR1_1.out HB.out)); (case side4 => exact HC1_1.out); rintro e w43 ⟨rfl, hb⟩; replace BK314 := za_ BK314 hb; replace BK315 := za_ BK315 hb; replace BK316 := za_ BK316 hb; replace HB := Aside0.mk (below_step (zw3_ HB GE314 GE315 GE316) hb); (try clear hb)))
  go_meet
  case rel => exact ⟨_, (decide (a3 > 4096)), z1_, H', ⟨by first | omega | exact Nat.le_refl _⟩, ⟨zb_ BK314⟩, ⟨zb_ BK315⟩, ⟨zb_ BK316⟩, ⟨zw3_ HB GE314 GE315 GE316⟩⟩
 case rest =>
  clear HC5
  try clear c1
  try clear c2
  try clear p2
  try clear c3
  try clear c4
  try clear c5
  try clear c10
  try clear c12
  try clear c13
  try clear c13b0
  try clear c14
  try clear c15
  try clear c18
  try clear c21
  try clear c21b0
  try clear c22
  try clear c23
  try clear c26
  try clear c29
  try clear c29b0
  try clear c30
  try clear c31
  try clear c32
  try clear c34
  try clear c37
  try clear c38
  try clear c41
  try clear c44
  try clear c45
  try clear c48
  try clear c51
  try clear c52
  try clear hcz16_0
  try clear hcz16_1
  try clear hcz19_0
  try clear hcz19_1
  try clear hcz24_0
  try clear hcz24_1
  try clear hcz27_0
  try clear hcz27_1
  try clear hcz32_0
  try clear hcz32_1
  try clear hcz35_0
  try clear hcz35_1
  try clear hcz39_0
  try clear hcz39_1
  try clear hcz42_0
  try clear hcz42_1
  try clear hcz46_0
  try clear hcz46_1
  try clear hcz49_0
  try clear hcz49_1
  try clear hcz53_0
  try clear hcz53_1
  try clear hfz16_0
  try clear hfz16_1
  try clear hfz19_0
  try clear hfz19_1
  try clear hfz24_0
  try clear hfz24_1
  try clear hfz27_0
  try clear hfz27_1
  try clear hfz32_0
  try clear hfz32_1
  try clear hfz35_0
  try clear hfz35_1
  try clear hfz39_0
  try clear hfz39_1
  try clear hfz42_0
  try clear hfz42_1
  try clear hfz46_0
  try clear hfz46_1
  try clear hfz49_0
  try clear hfz49_1
  try clear hfz53_0
  try clear hfz53_1
  obtain ⟨kq, x44_4, rfl, HA, HJ4, BK314, BK315, BK316, HB⟩ := hcut
  cases kq with
  | zero => exact absurd HA.out (by simp [carouselref5_BackIn.j0])
  | succ kj4 =>
   have H := HA.out
   clear HA
   simp only [carouselref5_BackIn.j0] at H
   by_cases c55 : x44_4 = true
   ·subst c55
    have H1 : (some (([] : List Int), ([] : List Int), 1)) = some (r1, r2, r3) := by rw [if_pos rfl] at H; exact H
    clear H
    have H := H1
    clear H1
    simp only [Option.some.injEq, Prod.mk.injEq] at H
    obtain ⟨rfl, rfl, rfl⟩ := H
    have hnb56 := NB316_314.out
    have hnc56 := NB314_316.out
    have hnb57 := NB316_315.out
    have hnc57 := NB315_316.out
    have hcz58_0 := zx_ (v := .slice none 0 0) BK316 0
    have hcz58_1 := zx_ (v := .slice none 0 0) BK316 1
    have hfz58_0 := blk_frozen BK316.out 0
    have hfz58_1 := blk_frozen BK316.out 1
    go_wp2
    refine bodyPost_ret (results_ct rfl _ _ gb316 25 #[.slice none 0 0, .slice none 0 0] (0, 0) _ rfl (zo2_ BK316) Try.underlying25 rfl (by kernel_rfl)) rfl ?_
    exact ⟨_, _, z0_, z2_, z2_, zw3_ HB GE314 GE315 GE316⟩
   replace c55 := Bool.eq_false_iff.mpr c55
   subst c55
   have H1 := H
   rw [if_neg (show ¬ (false = true) by decide)] at H1
   clear H
   have H := H1
   clear H1
   have HC59 := Aside0.mk H
   clear H
   go_upto_region 3 with (fail)
   go_cut [90] (fun v90 wc => ∃ (kq : Nat) (x90_58 : Bool), v90 = .bool x90_58 ∧ Aside0 (carouselref5_BackIn.j1 kq a2 a3 x90_58 l0_0 l0_1 l1_0 l1_1 = some (r1, r2, r3)) ∧ Aside0 (kq ≤ kj4) ∧ Aside0 (wc.heap[gb314]? = some (.cells #[(.slice A0_0 l0_0.length c0_0), (.slice A0_1 l0_1.length c0_1)] 25 (0, 0))) ∧ Aside0 (wc.heap[gb315]? = some (.cells #[(.slice A1_0 l1_0.length c1_0), (.slice A1_1 l1_1.length c1_1)] 25 (0, 0))) ∧ Aside0 (wc.heap[gb316]? = some (.cells #[(.slice none 0 0), (.slice none 0 0)] 25 (0, 0))) ∧ Aside0 (Below w.heap.size w wc))
   case first =>
    have H := HC59.out
    clear HC59
    by_cases c60 : (l0_0.length : Int) = 2
    rotate_left
    ·rw [if_neg c60] at H
     have c60b0 : ((l0_0.length : Int) == 2) = false := beq_eq_false_iff_ne.mpr c60
     have c60b1 : ((l0_0.length : Int) != 2) = true := bne_iff_ne.mpr c60
     (first | rw [c60b0] | (simp only [i64_w, i32_w]; rw [c60b0]) | skip)
     have H' := Aside0.mk H
     clear H
     try go_wp2
     replace BK314 := Aside0.mk (blk_drew BK314.out)
     replace BK315 := Aside0.mk (blk_drew BK315.out)
     replace BK316 := Aside0.mk (blk_drew BK316.out)
     replace HB := Aside0.mk (below_drew1 HB.out)
     refine start_ (n := 45) (S := fun w' => w'.cell? ⟨gb314, 0, none⟩ = some (.slice A0_0 l0_0.length c0_0) ∧ w'.cell? ⟨gb314, 1, none⟩ = some (.slice A0_1 l0_1.length c0_1)) (ds := []) #[false, false, false, false, false, false, false, false, false, false, false, false, false, false, false, false, false, false, false, false, false, false, false, false, false, false, false, false, false, false, false, false, false, false, false, false, false, false, false, false, false, false, false, false, false] (by kernel_rfl) rfl rfl ⟨(blk_cell BK314.out 0).trans rfl, (blk_cell BK314.out 1).trans rfl⟩ (fun hHeld => ?_); refine with_tabW carouselref5_BackIn.tab3 carouselref5_BackIn.bits3 (fun HT_ HW_ => ?_)
     generalize wc.drew = w73 at BK314 BK315 BK316 HB hHeld ⊢
     refine yp_ ?_ 0 46
     refine yt2_ ?_ 1 47
     refine yp_ ?_ 2 48
     refine yp_ ?_ 3 49
     refine yp_ ?_ 4 50
     refine yu_ ?_ 5 51
     refine yu_ ?_ 6 52
     refine yu_ ?_ 7 53
     refine yu_ ?_ 8 54
     refine yp_ ?_ 9 55
     refine yp_ ?_ 10 56
     refine yu_ ?_ 11 57
     refine yu_ ?_ 12 58
     refine yu_ ?_ 13 59
     refine yu_ ?_ 14 60
     refine yu_ ?_ 15 61
     refine yu_ ?_ 16 62
     refine yu_ ?_ 17 63
     refine yu_ ?_ 18 64
     refine yu_ ?_ 19 65
     refine yp_ ?_ 20 66
     refine yp_ ?_ 21 67
     refine yu_ ?_ 22 68
     refine yu_ ?_ 23 69
     refine yu_ ?_ 24 70
     refine yu_ ?_ 25 71
     refine yu_ ?_ 26 72
     refine yu_ ?_ 27 73
     refine yp_ ?_ 28 74
     refine yp_ ?_ 29 75
     refine yu_ ?_ 30 76
     refine yu_ ?_ 31 77
     refine yu_ ?_ 32 78
     refine yu_ ?_ 33 79
     refine yu_ ?_ 34 80
     refine yu_ ?_ 35 81
     refine yu_ ?_ 36 82
     refine yu_ ?_ 37 83
     refine yu_ ?_ 38 84
     refine yu_ ?_ 39 85
     refine yu_ ?_ 40 86
     refine yu_ ?_ 41 87
     refine yu_ ?_ 42 88
     refine yu_ ?_ 43 89
     refine yp_ ?_ 44 90
     refine done_ (done_of HT_.out (by kernel_rfl)) ?_
     try go_wp2
     go_meet
     case rel => exact ⟨_, (true), z1_, H', ⟨by have := HJ4.out; first | omega | exact Nat.le_refl _⟩, ⟨zb_ BK314⟩, ⟨zb_ BK315⟩, ⟨zb_ BK316⟩, ⟨zw3_ HB GE314 GE315 GE316⟩⟩
    rw [if_pos c60] at H
    have c60b0 : ((l0_0.length : Int) == 2) = true := beq_iff_eq.mpr c60
    have c60b1 : ((l0_0.length : Int) != 2) = false := bne_eq_false_iff_eq.mpr c60
    clear c60
    (first | rw [c60b0] | (simp only [i64_w, i32_w]; rw [c60b0]) | skip)
    by_cases c61 : (l1_0.length : Int) = 3
    rotate_left
    ·rw [if_neg c61] at H
     have c61b0 : ((l1_0.length : Int) == 3) = false := beq_eq_false_iff_ne.mpr c61
     have c61b1 : ((l1_0.length : Int) != 3) = true := bne_iff_ne.mpr c61
     have H' := Aside0.mk H
     clear H
     try go_wp2
     replace BK314 := Aside0.mk (blk_drew BK314.out)
     replace BK315 := Aside0.mk (blk_drew BK315.out)
     replace BK316 := Aside0.mk (blk_drew BK316.out)
     replace HB := Aside0.mk (below_drew1 HB.out)
     refine start_ (n := 45) (S := fun w' => w'.cell? ⟨gb314, 0, none⟩ = some (.slice A0_0 l0_0.length c0_0) ∧ w'.cell? ⟨gb314, 1, none⟩ = some (.slice A0_1 l0_1.length c0_1) ∧ w'.cell? ⟨gb315, 0, none⟩ = some (.slice A1_0 l1_0.length c1_0) ∧ w'.cell? ⟨gb315, 1, none⟩ = some (.slice A1_1 l1_1.length c1_1)) (ds := []) #[false, false, false, false, false, false, false, false, false, false, false, false, false, false, false, false, false, false, false, false, false, false, false, false, false, false, false, false, false, false, false, false, false, false, false, false, false, false, false, false, false, false, false, false, false] (by kernel_rfl) rfl rfl ⟨(blk_cell BK314.out 0).trans rfl, (blk_cell BK314.out 1).trans rfl, (blk_cell BK315.out 0).trans rfl, (blk_cell BK315.out 1).trans rfl⟩ (fun hHeld => ?_); refine with_tabW carouselref5_BackIn.tab3 carouselref5_BackIn.bits3 (fun HT_ HW_ => ?_)
     generalize wc.drew = w72 at BK314 BK315 BK316 HB hHeld ⊢
     refine yp_ ?_ 0 46
     refine yt4_ ?_ 1 47
     refine yp_ ?_ 2 48
     refine yp_ ?_ 3 49
     refine yp_ ?_ 4 50
     refine yp_ ?_ 5 51
     refine yt4_ ?_ 6 52
     refine yp_ ?_ 7 53
     refine yp_ ?_ 8 54
     refine yp_ ?_ 9 55
     refine yp_ ?_ 10 56
     refine yu_ ?_ 11 57
     refine yu_ ?_ 12 58
     refine yu_ ?_ 13 59
     refine yu_ ?_ 14 60
     refine yu_ ?_ 15 61
     refine yu_ ?_ 16 62
     refine yu_ ?_ 17 63
     refine yu_ ?_ 18 64
     refine yu_ ?_ 19 65
     refine yp_ ?_ 20 66
     refine yp_ ?_ 21 67
     refine yu_ ?_ 22 68
     refine yu_ ?_ 23 69
     refine yu_ ?_ 24 70
     refine yu_ ?_ 25 71
     refine yu_ ?_ 26 72
     refine yu_ ?_ 27 73
     refine yp_ ?_ 28 74
     refine yp_ ?_ 29 75
     refine yu_ ?_ 30 76
     refine yu_ ?_ 31 77
     refine yu_ ?_ 32 78
     refine yu_ ?_ 33 79
     refine yu_ ?_ 34 80
     refine yu_ ?_ 35 81
     refine yu_ ?_ 36 82
     refine yu_ ?_ 37 83
     refine yu_ ?_ 38 84
     refine yu_ ?_ 39 85
     refine yu_ ?_ 40 86
     refine yu_ ?_ 41 87
     refine yu_ ?_ 42 88
     refine yu_ ?_ 43 89
     refine yp_ ?_ 44 90
     refine done_ (done_of HT_.out (by kernel_rfl)) ?_
     try go_wp2
     go_meet
     case rel => exact ⟨_, (true), z1_, H', ⟨by have := HJ4.out; first | omega | exact Nat.le_refl _⟩, ⟨zb_ BK314⟩, ⟨zb_ BK315⟩, ⟨zb_ BK316⟩, ⟨zw3_ HB GE314 GE315 GE316⟩⟩
    rw [if_pos c61] at H
    have c61b0 : ((l1_0.length : Int) == 3) = true := beq_iff_eq.mpr c61
    have c61b1 : ((l1_0.length : Int) != 3) = false := bne_eq_false_iff_eq.mpr c61
    clear c61
    by_cases c62 : 0 < (l0_0.length : Int)
    rotate_left
    ·rw [if_neg c62] at H
     exact absurd H (by simp)
    rw [if_pos c62] at H
    have c62b0 : decide (0 < (l0_0.length : Int)) = true := decide_eq_true c62
    have c62b1 : decide (0 < l0_0.length) = true := decide_eq_true (by omega)
    clear c62
    by_cases c63 : 0 < (l1_0.length : Int)
    rotate_left
    ·rw [if_neg c63] at H
     exact absurd H (by simp)
    rw [if_pos c63] at H
    have c63b0 : decide (0 < (l1_0.length : Int)) = true := decide_eq_true c63
    have c63b1 : decide (0 < l1_0.length) = true := decide_eq_true (by omega)
    clear c63
    by_cases c64 : (rd l0_0 0) = (rd l1_0 0)
    rotate_left
    ·rw [if_neg c64] at H
     have c64b0 : ((rd l0_0 0) == (rd l1_0 0)) = false := beq_eq_false_iff_ne.mpr c64
     have c64b1 : ((rd l0_0 0) != (rd l1_0 0)) = true := bne_iff_ne.mpr c64
     have H' := Aside0.mk H
     clear H
     try go_wp2
     replace BK314 := Aside0.mk (blk_drew BK314.out)
     replace BK315 := Aside0.mk (blk_drew BK315.out)
     replace BK316 := Aside0.mk (blk_drew BK316.out)
     replace HB := Aside0.mk (below_drew1 HB.out)
     have p319 : 0 ≤ (0 : Int) := (by omega)
     have q319 : 0 < (l0_0.length : Int) := of_decide_eq_true (by first | (with_reducible assumption) | assumption)
     obtain ⟨ad319, e319, hx319_0⟩ := Kd.at_int HR0_0.out 0 p319 q319
     have hw319_0 := hx319_0
     (try rw [show ((0 : Int)).toNat = 0 from rfl] at hw319_0)
     (try rw [show 0 * 1 = 0 from rfl] at hw319_0)
     (try rw [Addr.add_zero'] at hw319_0)
     cases e319
     have qi319 : (0 < l0_0.length) = True := eq_true (by omega)
     (try rw [show ((0 : Int)).toNat = 0 from rfl] at hx319_0)
     (try rw [Addr.add_zero'] at hx319_0)
     replace hx319_0 := (HB.out.cell (World.block_lt_of_cell? w _ hx319_0)).trans hx319_0
     replace p319 := eq_true p319
     replace q319 := eq_true q319
     have p320 : 0 ≤ (0 : Int) := (by omega)
     have q320 : 0 < (l1_0.length : Int) := of_decide_eq_true (by first | (with_reducible assumption) | assumption)
     obtain ⟨ad320, e320, hx320_0⟩ := Kd.at_int HR1_0.out 0 p320 q320
     have hw320_0 := hx320_0
     (try rw [show ((0 : Int)).toNat = 0 from rfl] at hw320_0)
     (try rw [show 0 * 1 = 0 from rfl] at hw320_0)
     (try rw [Addr.add_zero'] at hw320_0)
     cases e320
     have qi320 : (0 < l1_0.length) = True := eq_true (by omega)
     (try rw [show ((0 : Int)).toNat = 0 from rfl] at hx320_0)
     (try rw [Addr.add_zero'] at hx320_0)
     replace hx320_0 := (HB.out.cell (World.block_lt_of_cell? w _ hx320_0)).trans hx320_0
     replace p320 := eq_true p320
     replace q320 := eq_true q320
     refine start_ (n := 45) (S := fun w' => w'.cell? ⟨gb314, 0, none⟩ = some (.slice (some ad319) l0_0.length c0_0) ∧ w'.cell? ⟨gb314, 1, none⟩ = some (.slice A0_1 l0_1.length c0_1) ∧ w'.cell? ⟨gb315, 0, none⟩ = some (.slice (some ad320) l1_0.length c1_0) ∧ w'.cell? ⟨gb315, 1, none⟩ = some (.slice A1_1 l1_1.length c1_1) ∧ w'.cell? ad319 = some (.int .i64 (rd l0_0 0)) ∧ w'.cell? ad320 = some (.int .i64 (rd l1_0 0))) (ds := []) #[false, false, false, false, false, false, false, false, false, false, false, false, false, false, false, false, false, false, false, false, false, false, false, false, false, false, false, false, false, false, false, false, false, false, false, false, false, false, false, false, false, false, false, false, false] (by kernel_rfl) rfl rfl ⟨(blk_cell BK314.out 0).trans rfl, (blk_cell BK314.out 1).trans rfl, (blk_cell BK315.out 0).trans rfl, (blk_cell BK315.out 1).trans rfl, ((HB.out.cell (World.block_lt_of_cell? w _ hw319_0)).trans hw319_0), ((HB.out.cell (World.block_lt_of_cell? w _ hw320_0)).trans hw320_0)⟩ (fun hHeld => ?_); refine with_tabW carouselref5_BackIn.tab3 carouselref5_BackIn.bits3 (fun HT_ HW_ => ?_)
     generalize wc.drew = w71 at BK314 BK315 BK316 HB hx319_0 hx320_0 hHeld ⊢
     refine yp_ ?_ 0 46
     refine yt6_ ?_ 1 47
     refine yp_ ?_ 2 48
     refine yp_ ?_ 3 49
     refine yp_ ?_ 4 50
     refine yp_ ?_ 5 51
     refine yt6_ ?_ 6 52
     refine yp_ ?_ 7 53
     refine yp_ ?_ 8 54
     refine yp_ ?_ 9 55
     refine yp_ ?_ 10 56
     refine yp_ ?_ 11 57
     refine yp_ ?_ 15 61
     refine yt6_ ?_ 12 58
     refine yp_ ?_ 13 59
     refine yt6_ ?_ 14 60
     refine yt6_ ?_ 16 62
     refine yp_ ?_ 17 63
     refine yt6_ ?_ 18 64
     refine yp_ ?_ 19 65
     refine yp_ ?_ 20 66
     refine yp_ ?_ 21 67
     refine yu_ ?_ 22 68
     refine yu_ ?_ 23 69
     refine yu_ ?_ 24 70
     refine yu_ ?_ 25 71
     refine yu_ ?_ 26 72
     refine yu_ ?_ 27 73
     refine yp_ ?_ 28 74
     refine yp_ ?_ 29 75
     refine yu_ ?_ 30 76
     refine yu_ ?_ 31 77
     refine yu_ ?_ 32 78
     refine yu_ ?_ 33 79
     refine yu_ ?_ 34 80
     refine yu_ ?_ 35 81
     refine yu_ ?_ 36 82
     refine yu_ ?_ 37 83
     refine yu_ ?_ 38 84
     refine yu_ ?_ 39 85
     refine yu_ ?_ 40 86
     refine yu_ ?_ 41 87
     refine yu_ ?_ 42 88
     refine yu_ ?_ 43 89
     refine yp_ ?_ 44 90
     refine done_ (done_of HT_.out (by kernel_rfl)) ?_
     try go_wp2
     go_meet
     case rel => exact ⟨_, (true), z1_, H', ⟨by have := HJ4.out; first | omega | exact Nat.le_refl _⟩, ⟨zb_ BK314⟩, ⟨zb_ BK315⟩, ⟨zb_ BK316⟩, ⟨zw3_ HB GE314 GE315 GE316⟩⟩
    rw [if_pos c64] at H
    have c64b0 : ((rd l0_0 0) == (rd l1_0 0)) = true := beq_iff_eq.mpr c64
    have c64b1 : ((rd l0_0 0) != (rd l1_0 0)) = false := bne_eq_false_iff_eq.mpr c64
    clear c64
    by_cases c65 : 2 < (l1_0.length : Int)
    rotate_left
    ·rw [if_neg c65] at H
     exact absurd H (by simp)
    rw [if_pos c65] at H
    have c65b0 : decide (2 < (l1_0.length : Int)) = true := decide_eq_true c65
    have c65b1 : decide (2 < l1_0.length) = true := decide_eq_true (by omega)
    clear c65
    by_cases c66 : (rd l1_0 2) > a3
    ·rw [if_pos c66] at H
     have c66b0 : decide (a3 < (rd l1_0 2)) = true := decide_eq_true c66
     clear c66
     have H' := Aside0.mk H
     clear H
     try go_wp2
     replace BK314 := Aside0.mk (blk_drew BK314.out)
     replace BK315 := Aside0.mk (blk_drew BK315.out)
     replace BK316 := Aside0.mk (blk_drew BK316.out)
     replace HB := Aside0.mk (below_drew1 HB.out)
     have p319 : 0 ≤ (0 : Int) := (by omega)
     have q319 : 0 < (l0_0.length : Int) := of_decide_eq_true (by first | (with_reducible assumption) | assumption)
     obtain ⟨ad319, e319, hx319_0⟩ := Kd.at_int HR0_0.out 0 p319 q319
     have hw319_0 := hx319_0
     (try rw [show ((0 : Int)).toNat = 0 from rfl] at hw319_0)
     (try rw [show 0 * 1 = 0 from rfl] at hw319_0)
     (try rw [Addr.add_zero'] at hw319_0)
     cases e319
     have qi319 : (0 < l0_0.length) = True := eq_true (by omega)
     (try rw [show ((0 : Int)).toNat = 0 from rfl] at hx319_0)
     (try rw [Addr.add_zero'] at hx319_0)
     replace hx319_0 := (HB.out.cell (World.block_lt_of_cell? w _ hx319_0)).trans hx319_0
     replace p319 := eq_true p319
     replace q319 := eq_true q319
     have p320 : 0 ≤ (0 : Int) := (by omega)
     have q320 : 0 < (l1_0.length : Int) := of_decide_eq_true (by first | (with_reducible assumption) | assumption)
     obtain ⟨ad320, e320, hx320_0⟩ := Kd.at_int HR1_0.out 0 p320 q320
     have hw320_0 := hx320_0
     (try rw [show ((0 : Int)).toNat = 0 from rfl] at hw320_0)
     (try rw [show 0 * 1 = 0 from rfl] at hw320_0)
     (try rw [Addr.add_zero'] at hw320_0)
     cases e320
     have qi320 : (0 < l1_0.length) = True := eq_true (by omega)
     (try rw [show ((0 : Int)).toNat = 0 from rfl] at hx320_0)
     (try rw [Addr.add_zero'] at hx320_0)
     replace hx320_0 := (HB.out.cell (World.block_lt_of_cell? w _ hx320_0)).trans hx320_0
     replace p320 := eq_true p320
     replace q320 := eq_true q320
     have p321 : 0 ≤ (2 : Int) := (by omega)
     have q321 : 2 < (l1_0.length : Int) := of_decide_eq_true (by first | (with_reducible assumption) | assumption)
     obtain ⟨ad321, e321, hx321_0⟩ := Kd.at_int HR1_0.out 2 p321 q321
     have hw321_0 := hx321_0
     (try rw [show ((2 : Int)).toNat = 2 from rfl] at hw321_0)
     (try rw [show 2 * 1 = 2 from rfl] at hw321_0)
     (try simp only [Nat.reduceMul, Nat.reduceEqDiff, Go.Addr.add, ↓reduceIte] at hw321_0)
     obtain rfl : ad320 = ad321 := (by injection e321)
     (try simp only [show (2 : Int).toNat = 2 from rfl, Nat.reduceMul, Nat.reduceEqDiff, Go.Addr.add, ↓reduceIte] at hx321_0)
     have qi321 : (2 < l1_0.length) = True := eq_true (by omega)
     (try rw [show ((2 : Int)).toNat = 2 from rfl] at hx321_0)
     replace hx321_0 := (HB.out.cell (World.block_lt_of_cell? w _ hx321_0)).trans hx321_0
     replace p321 := eq_true p321
     replace q321 := eq_true q321
     refine start_ (n := 45) (S := fun w' => w'.cell? ⟨gb314, 0, none⟩ = some (.slice (some ad319) l0_0.length c0_0) ∧ w'.cell? ⟨gb314, 1, none⟩ = some (.slice A0_1 l0_1.length c0_1) ∧ w'.cell? ⟨gb315, 0, none⟩ = some (.slice (some ad320) l1_0.length c1_0) ∧ w'.cell? ⟨gb315, 1, none⟩ = some (.slice A1_1 l1_1.length c1_1) ∧ w'.cell? ad319 = some (.int .i64 (rd l0_0 0)) ∧ w'.cell? ad320 = some (.int .i64 (rd l1_0 0)) ∧ w'.cell? ⟨ad320.block, ad320.off + 2, none⟩ = some (.int .i64 (rd l1_0 2))) (ds := []) #[false, false, false, false, false, false, false, false, false, false, false, false, false, false, false, false, false, false, false, false, false, false, false, false, false, false, false, false, false, false, false, false, false, false, false, false, false, false, false, false, false, false, false, false, false] (by kernel_rfl) rfl rfl ⟨(blk_cell BK314.out 0).trans rfl, (blk_cell BK314.out 1).trans rfl, (blk_cell BK315.out 0).trans rfl, (blk_cell BK315.out 1).trans rfl, ((HB.out.cell (World.block_lt_of_cell? w _ hw319_0)).trans hw319_0), ((HB.out.cell (World.block_lt_of_cell? w _ hw320_0)).trans hw320_0), ((HB.out.cell (World.block_lt_of_cell? w _ hw321_0)).trans hw321_0)⟩ (fun hHeld => ?_); refine with_tabW carouselref5_BackIn.tab3 carouselref5_BackIn.bits3 (fun HT_ HW_ => ?_)
     generalize wc.drew = w67 at BK314 BK315 BK316 HB hx319_0 hx320_0 hx321_0 hHeld ⊢
     refine yp_ ?_ 0 46
     refine yt7_ ?_ 1 47
     refine yp_ ?_ 2 48
     refine yp_ ?_ 3 49
     refine yp_ ?_ 4 50
     refine yp_ ?_ 5 51
     refine yt7_ ?_ 6 52
     refine yp_ ?_ 7 53
     refine yp_ ?_ 8 54
     refine yp_ ?_ 9 55
     refine yp_ ?_ 10 56
     refine yp_ ?_ 11 57
     refine yp_ ?_ 15 61
     refine yt7_ ?_ 12 58
     refine yp_ ?_ 13 59
     refine yt7_ ?_ 14 60
     refine yt7_ ?_ 16 62
     refine yp_ ?_ 17 63
     refine yt7_ ?_ 18 64
     refine yp_ ?_ 19 65
     refine yp_ ?_ 20 66
     refine yp_ ?_ 21 67
     refine yp_ ?_ 22 68
     refine yp_ ?_ 26 72
     refine yt7_ ?_ 23 69
     refine yp_ ?_ 24 70
     refine yt7_ ?_ 25 71
     refine yp_ ?_ 27 73
     refine yp_ ?_ 28 74
     refine yp_ ?_ 29 75
     refine yu_ ?_ 30 76
     refine yu_ ?_ 31 77
     refine yu_ ?_ 32 78
     refine yu_ ?_ 33 79
     refine yu_ ?_ 34 80
     refine yu_ ?_ 35 81
     refine yu_ ?_ 36 82
     refine yu_ ?_ 37 83
     refine yu_ ?_ 38 84
     refine yu_ ?_ 39 85
     refine yu_ ?_ 40 86
     refine yu_ ?_ 41 87
     refine yu_ ?_ 42 88
     refine yu_ ?_ 43 89
     refine yp_ ?_ 44 90
     refine done_ (done_of HT_.out (by kernel_rfl)) ?_
     try go_wp2
     go_meet
     case rel => exact ⟨_, (true), z1_, H', ⟨by have := HJ4.out; first | omega | exact Nat.le_refl _⟩, ⟨zb_ BK314⟩, ⟨zb_ BK315⟩, ⟨zb_ BK316⟩, ⟨zw3_ HB GE314 GE315 GE316⟩⟩
    rw [if_neg c66] at H
    have c66b0 : decide (a3 < (rd l1_0 2)) = false := decide_eq_false c66
    clear c66
    by_cases c68 : 1 < (l0_0.length : Int)
    rotate_left
    ·rw [if_neg c68] at H
     exact absurd H (by simp)
    rw [if_pos c68] at H
    have c68b0 : decide (1 < (l0_0.length : Int)) = true := decide_eq_true c68
    have c68b1 : decide (1 < l0_0.length) = true := decide_eq_true (by omega)
    clear c68
    by_cases c69 : a2 = 0
    ·rw [if_pos c69] at H
     exact absurd H (by simp)
    rw [if_neg c69] at H
    have c69b0 : (a2 == 0) = false := beq_eq_false_iff_ne.mpr c69
    have c69b1 : (a2 != 0) = true := bne_iff_ne.mpr c69
    have H' := Aside0.mk H
    clear H
    try go_wp2
    replace BK314 := Aside0.mk (blk_drew BK314.out)
    replace BK315 := Aside0.mk (blk_drew BK315.out)
    replace BK316 := Aside0.mk (blk_drew BK316.out)
    replace HB := Aside0.mk (below_drew1 HB.out)
    have p319 : 0 ≤ (0 : Int) := (by omega)
    have q319 : 0 < (l0_0.length : Int) := of_decide_eq_true (by first | (with_reducible assumption) | assumption)
    obtain ⟨ad319, e319, hx319_0⟩ := Kd.at_int HR0_0.out 0 p319 q319
    have hw319_0 := hx319_0
    (try rw [show ((0 : Int)).toNat = 0 from rfl] at hw319_0)
    (try rw [show 0 * 1 = 0 from rfl] at hw319_0)
    (try rw [Addr.add_zero'] at hw319_0)
    cases e319
    have qi319 : (0 < l0_0.length) = True := eq_true (by omega)
    (try rw [show ((0 : Int)).toNat = 0 from rfl] at hx319_0)
    (try rw [Addr.add_zero'] at hx319_0)
    replace hx319_0 := (HB.out.cell (World.block_lt_of_cell? w _ hx319_0)).trans hx319_0
    replace p319 := eq_true p319
    replace q319 := eq_true q319
    have p320 : 0 ≤ (0 : Int) := (by omega)
    have q320 : 0 < (l1_0.length : Int) := of_decide_eq_true (by first | (with_reducible assumption) | assumption)
    obtain ⟨ad320, e320, hx320_0⟩ := Kd.at_int HR1_0.out 0 p320 q320
    have hw320_0 := hx320_0
    (try rw [show ((0 : Int)).toNat = 0 from rfl] at hw320_0)
    (try rw [show 0 * 1 = 0 from rfl] at hw320_0)
    (try rw [Addr.add_zero'] at hw320_0)
    cases e320
    have qi320 : (0 < l1_0.length) = True := eq_true (by omega)
    (try rw [show ((0 : Int)).toNat = 0 from rfl] at hx320_0)
    (try rw [Addr.add_zero'] at hx320_0)
    replace hx320_0 := (HB.out.cell (World.block_lt_of_cell? w _ hx320_0)).trans hx320_0
    replace p320 := eq_true p320
    replace q320 := eq_true q320
    have p321 : 0 ≤ (2 : Int) := (by omega)
    have q321 : 2 < (l1_0.length : Int) := of_decide_eq_true (by first | (with_reducible assumption) | assumption)
    obtain ⟨ad321, e321, hx321_0⟩ := Kd.at_int HR1_0.out 2 p321 q321
    have hw321_0 := hx321_0
    (try rw [show ((2 : Int)).toNat = 2 from rfl] at hw321_0)
    (try rw [show 2 * 1 = 2 from rfl] at hw321_0)
    (try simp only [Nat.reduceMul, Nat.reduceEqDiff, Go.Addr.add, ↓reduceIte] at hw321_0)
    obtain rfl : ad320 = ad321 := (by injection e321)
    (try simp only [show (2 : Int).toNat = 2 from rfl, Nat.reduceMul, Nat.reduceEqDiff, Go.Addr.add, ↓reduceIte] at hx321_0)
    have qi321 : (2 < l1_0.length) = True := eq_true (by omega)
    (try rw [show ((2 : Int)).toNat = 2 from rfl] at hx321_0)
    replace hx321_0 := (HB.out.cell (World.block_lt_of_cell? w _ hx321_0)).trans hx321_0
    replace p321 := eq_true p321
    replace q321 := eq_true q321
    have p322 : 0 ≤ (1 : Int) := (by omega)
    have q322 : 1 < (l0_0.length : Int) := of_decide_eq_true (by first | (with_reducible assumption) | assumption)
    obtain ⟨ad322, e322, hx322_0⟩ := Kd.at_int HR0_0.out 1 p322 q322
    have hw322_0 := hx322_0
    (try rw [show ((1 : Int)).toNat = 1 from rfl] at hw322_0)
    (try rw [show 1 * 1 = 1 from rfl] at hw322_0)
    (try simp only [Nat.reduceMul, Nat.reduceEqDiff, Go.Addr.add, ↓reduceIte] at hw322_0)
    obtain rfl : ad319 = ad322 := (by injection e322)
    (try simp only [show (1 : Int).toNat = 1 from rfl, Nat.reduceMul, Nat.reduceEqDiff, Go.Addr.add, ↓reduceIte] at hx322_0)
    have qi322 : (1 < l0_0.length) = True := eq_true (by omega)
    (try rw [show ((1 : Int)).toNat = 1 from rfl] at hx322_0)
    replace hx322_0 := (HB.out.cell (World.block_lt_of_cell? w _ hx322_0)).trans hx322_0
    replace p322 := eq_true p322
    replace q322 := eq_true q322
    have p323 : 0 ≤ (2 : Int) := (by omega)
    have q323 : 2 < (l1_0.length : Int) := of_decide_eq_true (by first | (with_reducible assumption) | assumption)
    obtain ⟨ad323, e323, hx323_0⟩ := Kd.at_int HR1_0.out 2 p323 q323
    have hw323_0 := hx323_0
    (try rw [show ((2 : Int)).toNat = 2 from rfl] at hw323_0)
    (try rw [show 2 * 1 = 2 from rfl] at hw323_0)
    (try simp only [Nat.reduceMul, Nat.reduceEqDiff, Go.Addr.add, ↓reduceIte] at hw323_0)
    obtain rfl : ad320 = ad323 := (by injection e323)
    (try simp only [show (2 : Int).toNat = 2 from rfl, Nat.reduceMul, Nat.reduceEqDiff, Go.Addr.add, ↓reduceIte] at hx323_0)
    have qi323 : (2 < l1_0.length) = True := eq_true (by omega)
    (try rw [show ((2 : Int)).toNat = 2 from rfl] at hx323_0)
    replace hx323_0 := (HB.out.cell (World.block_lt_of_cell? w _ hx323_0)).trans hx323_0
    replace p323 := eq_true p323
    replace q323 := eq_true q323
    refine start_ (n := 45) (S := fun w' => w'.cell? ⟨gb314, 0, none⟩ = some (.slice (some ad319) l0_0.length c0_0) ∧ w'.cell? ⟨gb314, 1, none⟩ = some (.slice A0_1 l0_1.length c0_1) ∧ w'.cell? ⟨gb315, 0, none⟩ = some (.slice (some ad320) l1_0.length c1_0) ∧ w'.cell? ⟨gb315, 1, none⟩ = some (.slice A1_1 l1_1.length c1_1) ∧ w'.cell? ad319 = some (.int .i64 (rd l0_0 0)) ∧ w'.cell? ad320 = some (.int .i64 (rd l1_0 0)) ∧ w'.cell? ⟨ad320.block, ad320.off + 2, none⟩ = some (.int .i64 (rd l1_0 2)) ∧ w'.cell? ⟨ad319.block, ad319.off + 1, none⟩ = some (.int .i64 (rd l0_0 1)) ∧ w'.cell? ⟨ad320.block, ad320.off + 2, none⟩ = some (.int .i64 (rd l1_0 2))) (ds := []) #[false, false, false, false, false, false, false, false, false, false, false, false, false, false, false, false, false, false, false, false, false, false, false, false, false, false, false, false, false, false, false, false, false, false, false, false, false, false, false, false, false, false, false, false, false] (by kernel_rfl) rfl rfl ⟨(blk_cell BK314.out 0).trans rfl, (blk_cell BK314.out 1).trans rfl, (blk_cell BK315.out 0).trans rfl, (blk_cell BK315.out 1).trans rfl, ((HB.out.cell (World.block_lt_of_cell? w _ hw319_0)).trans hw319_0), ((HB.out.cell (World.block_lt_of_cell? w _ hw320_0)).trans hw320_0), ((HB.out.cell (World.block_lt_of_cell? w _ hw321_0)).trans hw321_0), ((HB.out.cell (World.block_lt_of_cell? w _ hw322_0)).trans hw322_0), ((HB.out.cell (World.block_lt_of_cell? w _ hw323_0)).trans hw323_0)⟩ (fun hHeld => ?_); refine with_tabW carouselref5_BackIn.tab3 carouselref5_BackIn.bits3 (fun HT_ HW_ => ?_)
    generalize wc.drew = w70 at BK314 BK315 BK316 HB hx319_0 hx320_0 hx321_0 hx322_0 hx323_0 hHeld ⊢
    refine yp_ ?_ 0 46
    refine yt9_ ?_ 1 47
    refine yp_ ?_ 2 48
    refine yp_ ?_ 3 49
    refine yp_ ?_ 4 50
    refine yp_ ?_ 5 51
    refine yt9_ ?_ 6 52
    refine yp_ ?_ 7 53
    refine yp_ ?_ 8 54
    refine yp_ ?_ 9 55
    refine yp_ ?_ 10 56
    refine yp_ ?_ 11 57
    refine yp_ ?_ 15 61
    refine yt9_ ?_ 12 58
    refine yp_ ?_ 13 59
    refine yt9_ ?_ 14 60
    refine yt9_ ?_ 16 62
    refine yp_ ?_ 17 63
    refine yt9_ ?_ 18 64
    refine yp_ ?_ 19 65
    refine yp_ ?_ 20 66
    refine yp_ ?_ 21 67
    refine yp_ ?_ 22 68
    refine yp_ ?_ 26 72
    refine yt9_ ?_ 23 69
    refine yp_ ?_ 24 70
    refine yt9_ ?_ 25 71
    refine yp_ ?_ 27 73
    refine yp_ ?_ 28 74
    refine yp_ ?_ 29 75
    refine yp_ ?_ 30 76
    refine yp_ ?_ 34 80
    refine yp_ ?_ 35 81
    refine yp_ ?_ 40 86
    refine yt9_ ?_ 31 77
    refine yp_ ?_ 32 78
    refine yt9_ ?_ 33 79
    refine yt9_ ?_ 36 82
    refine yp_ ?_ 37 83
    refine yt9_ ?_ 38 84
    refine yp_ ?_ 39 85
    refine yp_ ?_ 41 87
    refine yp_ ?_ 42 88
    refine yp_ ?_ 43 89
    refine yp_ ?_ 44 90
    refine done_ (done_of HT_.out (by kernel_rfl)) ?_
    try go_wp2
    go_meet
    case rel => exact ⟨_, (((rd l0_0 1) != (wrap64 ((wrap64 (Int.tdiv (wrap64 (a3 - (rd l1_0 2))) a2)) + 1)))), z1_, H', ⟨by have := HJ4.out; first | omega | exact Nat.le_refl _⟩, ⟨zb_ BK314⟩, ⟨zb_ BK315⟩, ⟨zb_ BK316⟩, ⟨zw3_ HB GE314 GE315 GE316⟩⟩
   case rest =>
    clear HC59
    try clear c1
    try clear p2
    try clear c6
    try clear c60
    try clear c60b0
    try clear c60b1
    try clear c61
    try clear c61b0
    try clear c61b1
    try clear c62
    try clear c63
    obtain ⟨kq, x90_58, rfl, HA, HJ58, BK314, BK315, BK316, HB⟩ := hcut
    cases kq with
    | zero => exact absurd HA.out (by simp [carouselref5_BackIn.j1])
    | succ kj58 =>
     have H := HA.out
     clear HA
     simp only [carouselref5_BackIn.j1] at H
     by_cases c74 : x90_58 = true
     ·subst c74
      have H1 : (some (([] : List Int), ([] : List Int), 4)) = some (r1, r2, r3) := by rw [if_pos rfl] at H; exact H
      clear H
      have H := H1
      clear H1
      simp only [Option.some.injEq, Prod.mk.injEq] at H
      obtain ⟨rfl, rfl, rfl⟩ := H
      have hnb75 := NB316_314.out
      have hnc75 := NB314_316.out
      have hnb76 := NB316_315.out
      have hnc76 := NB315_316.out
      have hcz77_0 := zx_ (v := .slice none 0 0) BK316 0
      have hcz77_1 := zx_ (v := .slice none 0 0) BK316 1
      have hfz77_0 := blk_frozen BK316.out 0
      have hfz77_1 := blk_frozen BK316.out 1
      go_wp2
      refine bodyPost_ret (results_ct rfl _ _ gb316 25 #[.slice none 0 0, .slice none 0 0] (0, 0) _ rfl (zo2_ BK316) Try.underlying25 rfl (by kernel_rfl)) rfl ?_
      exact ⟨_, _, z0_, z2_, z2_, zw3_ HB GE314 GE315 GE316⟩
     replace c74 := Bool.eq_false_iff.mpr c74
     subst c74
     have H1 := H
     rw [if_neg (show ¬ (false = true) by decide)] at H1
     clear H
     have H := H1
     clear H1
     by_cases c78 : 0 < (l0_0.length : Int)
     rotate_left
     ·rw [if_neg c78] at H
      exact absurd H (by simp)
     rw [if_pos c78] at H
     have c78b0 : decide (0 < (l0_0.length : Int)) = true := decide_eq_true c78
     have c78b1 : decide (0 < l0_0.length) = true := decide_eq_true (by omega)
     clear c78
     by_cases c79 : 1 < (l0_0.length : Int)
     rotate_left
     ·rw [if_neg c79] at H
      exact absurd H (by simp)
     rw [if_pos c79] at H
     have c79b0 : decide (1 < (l0_0.length : Int)) = true := decide_eq_true c79
     have c79b1 : decide (1 < l0_0.length) = true := decide_eq_true (by omega)
     clear c79
     by_cases c80 : 1 < (l1_0.length : Int)
     rotate_left
     ·rw [if_neg c80] at H
      exact absurd H (by simp)
     rw [if_pos c80] at H
     have c80b0 : decide (1 < (l1_0.length : Int)) = true := decide_eq_true c80
     have c80b1 : decide (1 < l1_0.length) = true := decide_eq_true (by omega)
     clear c80
     by_cases c81 : 2 < (l1_0.length : Int)
     rotate_left
     ·rw [if_neg c81] at H
      exact absurd H (by simp)
     rw [if_pos c81] at H
     have c81b0 : decide (2 < (l1_0.length : Int)) = true := decide_eq_true c81
     have c81b1 : decide (2 < l1_0.length) = true := decide_eq_true (by omega)
     clear c81
     obtain ⟨y328, hy328⟩ : ∃ y_ : List Int, y_ = (([rd l1_0 1, a3] : List Int)) := ⟨_, rfl⟩
     replace H : ((carouselref5_Good.f kj58 y328).bind fun t331 => (if t331 = true then ((carouselref5_New.f kj58 (([rd l1_0 1, a3] : List Int)) 0).bind fun bt335 => (carouselref5_BackIn.l0 kj58 a2 a3 (rd l0_0 0) (rd l0_0 1) (rd l1_0 1) (rd l1_0 2) 0 l0_0 l0_1 l1_0 l1_1 bt335.1 bt335.2)) else (some (([] : List Int), ([] : List Int), 2)))) = some (r1, r2, r3) := by first | (rw [hy328]; with_reducible exact H) | (have H2_ := (Option.bind_some _ _).symm.trans H; rw [hy328]; with_reducible exact H2_) | (have H2_ := (Option.bind_some _ _).symm.trans H; with_reducible exact H2_) | with_reducible exact H | (rw [hy328]; exact H) | exact H
     have Ny328 := Aside0.mk hy328
     clear hy328
     replace H := Option.bind_eq_some_iff.mp H
     obtain ⟨t331, A820, H⟩ := H
     (try dsimp only at H)
     have A82 := Aside0.mk A820
     clear A820
     by_cases c83 : t331 = true
     rotate_left
     ·replace c83 := Bool.eq_false_iff.mpr c83
      subst c83
      have H1 := H
      rw [if_neg (show ¬ (false = true) by decide)] at H1
      clear H
      have H := H1
      clear H1
      simp only [Option.some.injEq, Prod.mk.injEq] at H
      obtain ⟨rfl, rfl, rfl⟩ := H
      try go_wp2
      replace BK314 := Aside0.mk (blk_drew BK314.out)
      replace BK315 := Aside0.mk (blk_drew BK315.out)
      replace BK316 := Aside0.mk (blk_drew BK316.out)
      replace HB := Aside0.mk (below_drew1 HB.out)
      have p324 : 0 ≤ (0 : Int) := (by omega)
      have q324 : 0 < (l0_0.length : Int) := of_decide_eq_true (by first | (with_reducible assumption) | assumption)
      obtain ⟨ad324, e324, hx324_0⟩ := Kd.at_int HR0_0.out 0 p324 q324
      have hw324_0 := hx324_0
      (try rw [show ((0 : Int)).toNat = 0 from rfl] at hw324_0)
      (try rw [show 0 * 1 = 0 from rfl] at hw324_0)
      (try rw [Addr.add_zero'] at hw324_0)
      cases e324
      have qi324 : (0 < l0_0.length) = True := eq_true (by omega)
      (try rw [show ((0 : Int)).toNat = 0 from rfl] at hx324_0)
      (try rw [Addr.add_zero'] at hx324_0)
      replace hx324_0 := (HB.out.cell (World.block_lt_of_cell? w _ hx324_0)).trans hx324_0
      replace p324 := eq_true p324
      replace q324 := eq_true q324
      have p325 : 0 ≤ (1 : Int) := (by omega)
      have q325 : 1 < (l0_0.length : Int) := of_decide_eq_true (by first | (with_reducible assumption) | assumption)
      obtain ⟨ad325, e325, hx325_0⟩ := Kd.at_int HR0_0.out 1 p325 q325
      have hw325_0 := hx325_0
      (try rw [show ((1 : Int)).toNat = 1 from rfl] at hw325_0)
      (try rw [show 1 * 1 = 1 from rfl] at hw325_0)
      (try simp only [Nat.reduceMul, Nat.reduceEqDiff, Go.Addr.add, ↓reduceIte] at hw325_0)
      obtain rfl : ad324 = ad325 := (by injection e325)
      (try simp only [show (1 : Int).toNat = 1 from rfl, Nat.reduceMul, Nat.reduceEqDiff, Go.Addr.add, ↓reduceIte] at hx325_0)
      have qi325 : (1 < l0_0.length) = True := eq_true (by omega)
      (try rw [show ((1 : Int)).toNat = 1 from rfl] at hx325_0)
      replace hx325_0 := (HB.out.cell (World.block_lt_of_cell? w _ hx325_0)).trans hx325_0
      replace p325 := eq_true p325
      replace q325 := eq_true q325
      have p326 : 0 ≤ (1 : Int) := (by omega)
      have q326 : 1 < (l1_0.length : Int) := of_decide_eq_true (by first | (with_reducible assumption) | assumption)
      obtain ⟨ad326, e326, hx326_0⟩ := Kd.at_int HR1_0.out 1 p326 q326
      have hw326_0 := hx326_0
      (try rw [show ((1 : Int)).toNat = 1 from rfl] at hw326_0)
      (try rw [show 1 * 1 = 1 from rfl] at hw326_0)
      (try simp only [Nat.reduceMul, Nat.reduceEqDiff, Go.Addr.add, ↓reduceIte] at hw326_0)
      cases e326
      (try simp only [show (1 : Int).toNat = 1 from rfl, Nat.reduceMul, Nat.reduceEqDiff, Go.Addr.add, ↓reduceIte] at hx326_0)
      have qi326 : (1 < l1_0.length) = True := eq_true (by omega)
      (try rw [show ((1 : Int)).toNat = 1 from rfl] at hx326_0)
      replace hx326_0 := (HB.out.cell (World.block_lt_of_cell? w _ hx326_0)).trans hx326_0
      replace p326 := eq_true p326
      replace q326 := eq_true q326
      have p327 : 0 ≤ (2 : Int) := (by omega)
      have q327 : 2 < (l1_0.length : Int) := of_decide_eq_true (by first | (with_reducible assumption) | assumption)
      obtain ⟨ad327, e327, hx327_0⟩ := Kd.at_int HR1_0.out 2 p327 q327
      have hw327_0 := hx327_0
      (try rw [show ((2 : Int)).toNat = 2 from rfl] at hw327_0)
      (try rw [show 2 * 1 = 2 from rfl] at hw327_0)
      (try simp only [Nat.reduceMul, Nat.reduceEqDiff, Go.Addr.add, ↓reduceIte] at hw327_0)
      obtain rfl : ad326 = ad327 := (by injection e327)
      (try simp only [show (2 : Int).toNat = 2 from rfl, Nat.reduceMul, Nat.reduceEqDiff, Go.Addr.add, ↓reduceIte] at hx327_0)
      have qi327 : (2 < l1_0.length) = True := eq_true (by omega)
      (try rw [show ((2 : Int)).toNat = 2 from rfl] at hx327_0)
      replace hx327_0 := (HB.out.cell (World.block_lt_of_cell? w _ hx327_0)).trans hx327_0
      replace p327 := eq_true p327
      replace q327 := eq_true q327
      refine start_ (n := 20) (S := fun w' => w'.cell? ⟨gb314, 0, none⟩ = some (.slice (some ad324) l0_0.length c0_0) ∧ w'.cell? ⟨gb314, 1, none⟩ = some (.slice A0_1 l0_1.length c0_1) ∧ w'.cell? ⟨gb315, 0, none⟩ = some (.slice (some ad326) l1_0.length c1_0) ∧ w'.cell? ⟨gb315, 1, none⟩ = some (.slice A1_1 l1_1.length c1_1) ∧ w'.cell? ad324 = some (.int .i64 (rd l0_0 0)) ∧ w'.cell? ⟨ad324.block, ad324.off + 1, none⟩ = some (.int .i64 (rd l0_0 1)) ∧ w'.cell? ⟨ad326.block, ad326.off + 1, none⟩ = some (.int .i64 (rd l1_0 1)) ∧ w'.cell? ⟨ad326.block, ad326.off + 2, none⟩ = some (.int .i64 (rd l1_0 2))) (ds := []) #[false, false, false, false, false, false, false, false, false, false, false, false, false, false, false, false, false, false, false, false] (by kernel_rfl) rfl rfl ⟨(blk_cell BK314.out 0).trans rfl, (blk_cell BK314.out 1).trans rfl, (blk_cell BK315.out 0).trans rfl, (blk_cell BK315.out 1).trans rfl, ((HB.out.cell (World.block_lt_of_cell? w _ hw324_0)).trans hw324_0), ((HB.out.cell (World.block_lt_of_cell? w _ hw325_0)).trans hw325_0), ((HB.out.cell (World.block_lt_of_cell? w _ hw326_0)).trans hw326_0), ((HB.out.cell (World.block_lt_of_cell? w _ hw327_0)).trans hw327_0)⟩ (fun hHeld => ?_); refine with_tabW carouselref5_BackIn.tab5 carouselref5_BackIn.bits5 (fun HT_ HW_ => ?_)
      generalize wc.drew = w147 at BK314 BK315 BK316 HB hx324_0 hx325_0 hx326_0 hx327_0 hHeld ⊢
      refine yp_ ?_ 0 92
      refine yp_ ?_ 4 96
      refine yp_ ?_ 8 100
      refine yp_ ?_ 12 104
      refine yt8_ ?_ 1 93
      refine yp_ ?_ 2 94
      refine yt8_ ?_ 3 95
      refine yp_ ?_ 16 10
      refine yt8_ ?_ 5 97
      refine yp_ ?_ 6 98
      refine yt8_ ?_ 7 99
      refine yp_ ?_ 17 11
      refine yt8_ ?_ 9 101
      refine yp_ ?_ 10 102
      refine yt8_ ?_ 11 103
      refine yp_ ?_ 18 12
      refine yt8_ ?_ 13 105
      refine yp_ ?_ 14 106
      refine yt8_ ?_ 15 107
      refine yp_ ?_ 19 13
      refine done_ (done_of HT_.out (by kernel_rfl)) ?_
      try go_wp2_with (first | ((with_reducible refine gate_dst (N := 110) rfl ?_); (try (refine gate_guard (by rfl) ?_; dsimp only)); refine Kd.R_lit (Kd.int .i64) _ 3 ?hg (N := 110) ?hd (xs := ([rd l1_0 1, a3] : List Int)) (inner := [.int .i64 (rd l1_0 1), .int .i64 a3]) (ok := fun _ => True) (okp := fun _ => True) ?hr ?hp (fun _ hk => hk) trivial (Below.refl _ _) (Nat.le_refl _) (by simp) ?_; (case hd => rfl); (case hg => rfl); (case hr => first | (go_simp; done) | (go_simp; rfl)); (case hp => exact (Reps.one (show Kd.M (Kd.int .i64) _ _ _ (rd l1_0 1) [.int .i64 (rd l1_0 1)] from rfl) (Reps.one (show Kd.M (Kd.int .i64) _ _ _ a3 [.int .i64 a3] from rfl) (Reps.none _ _)))); intro v329 w148 ho149 hb hg_ hnew_; clear hg_ hnew_; (first | rw [← Ny328.out] at ho149 | (simp only [Int.reduceToNat] at ho149; rw [← Ny328.out] at ho149)); have HO330 := Aside0.mk (Kd.R_lower ho149 (below_size (zw3_ HB GE314 GE315 GE316))); replace BK314 := za_ BK314 hb; replace BK315 := za_ BK315 hb; replace BK316 := za_ BK316 hb; replace HB := Aside0.mk (below_step (zw3_ HB GE314 GE315 GE316) hb); clear hb ho149; obtain ⟨Ao150, co150, eo150⟩ := Kd.R_slice HO330.out; subst eo150) | ((with_reducible refine gate_callee (f := 33) rfl ?_); refine zg_ (some 111) Try.func33 #[.slice Ao150 y328.length co150] (h := ?_); (with_reducible refine (carouselref5_Good.calls kj58 _ _ y328 false _ ?side1 ?side2 A82.out).mono ?_); (case side1 => exact zk_ ((Kd.R_reads' HO330.out).2.2)); (case side2 => exact (Kd.R_reads' HO330.out).2.1); rintro e w' ⟨rfl, ⟨nd, rfl⟩⟩; refine ⟨_, rfl, ?_⟩; (try (rw [drewN_self w148]; generalize hq_ : World.drewN w148 _ = w148; have n0_ : Aside0 (Kd.R (Kd.int .i64) 3 w148 w.heap.size (fun _ => True) (.slice Ao150 y328.length co150) y328) := ⟨by rw [← hq_]; exact (zr_ HO330.out)⟩; have n1_ : Aside0 (w148.heap[gb314]? = some (.cells #[.slice (some ad324) l0_0.length c0_0, .slice A0_1 l0_1.length c0_1] 25 (0, 0))) := ⟨by rw [← hq_]; exact (zb_ BK314)⟩; have n2_ : Aside0 (w148.heap[gb315]? = some (.cells #[.slice (some ad326) l1_0.length c1_0, .slice A1_1 l1_1.length c1_1] 25 (0, 0))) := ⟨by rw [← hq_]; exact (zb_ BK315)⟩; have n3_ : Aside0 (w148.heap[gb316]? = some (.cells #[.slice none 0 0, .slice none 0 0] 25 (0, 0))) := ⟨by rw [← hq_]; exact (zb_ BK316)⟩; have n4_ : Aside0 (Below w.heap.size w w148) := ⟨by rw [← hq_]; exact (zw3_ HB GE314 GE315 GE316)⟩; clear HO330 BK314 BK315 BK316 HB hq_; have HO330 := n0_; have BK314 := n1_; have BK315 := n2_; have BK316 := n3_; have HB := n4_; clear n0_ n1_ n2_ n3_ n4_)); have hnb151 := NB316_314.out; have hnc151 := NB314_316.out; have hnb152 := NB316_315.out; have hnc152 := NB315_316.out; have hcz153_0 := zx_ (v := .slice none 0 0) BK316 0; have hcz153_1 := zx_ (v := .slice none 0 0) BK316 1; have hfz153_0 := blk_frozen BK316.out 0; have hfz153_1 := blk_frozen BK316.out 1))
      refine bodyPost_ret (results_ct rfl _ _ gb316 25 #[.slice none 0 0, .slice none 0 0] (0, 0) _ rfl (zo2_ BK316) Try.underlying25 rfl (by kernel_rfl)) rfl ?_
      exact ⟨_, _, z0_, z2_, z2_, zw3_ HB GE314 GE315 GE316⟩
     subst c83
     have H1 := H
     rw [if_pos rfl] at H1
     clear H
     have H := H1
     clear H1
     obtain ⟨y332, hy332⟩ : ∃ y_ : List Int, y_ = (([rd l1_0 1, a3] : List Int)) := ⟨_, rfl⟩
     replace H : ((carouselref5_New.f kj58 y332 0).bind fun bt335 => (carouselref5_BackIn.l0 kj58 a2 a3 (rd l0_0 0) (rd l0_0 1) (rd l1_0 1) (rd l1_0 2) 0 l0_0 l0_1 l1_0 l1_1 bt335.1 bt335.2)) = some (r1, r2, r3) := by first | (rw [hy332]; with_reducible exact H) | (have H2_ := (Option.bind_some _ _).symm.trans H; rw [hy332]; with_reducible exact H2_) | (have H2_ := (Option.bind_some _ _).symm.trans H; with_reducible exact H2_) | with_reducible exact H | (rw [hy332]; exact H) | exact H
     have Ny332 := Aside0.mk hy332
     clear hy332
     replace H := Option.bind_eq_some_iff.mp H
     obtain ⟨⟨t335, t338⟩, A840, H⟩ := H
     (try dsimp only at H)
     have A84 := Aside0.mk A840
     clear A840
     have H' := Aside0.mk H
     clear H
     try go_wp2
     replace BK314 := Aside0.mk (blk_drew BK314.out)
     replace BK315 := Aside0.mk (blk_drew BK315.out)
     replace BK316 := Aside0.mk (blk_drew BK316.out)
     replace HB := Aside0.mk (below_drew1 HB.out)
     have p324 : 0 ≤ (0 : Int) := (by omega)
     have q324 : 0 < (l0_0.length : Int) := of_decide_eq_true (by first | (with_reducible assumption) | assumption)
     obtain ⟨ad324, e324, hx324_0⟩ := Kd.at_int HR0_0.out 0 p324 q324
     have hw324_0 := hx324_0
     (try rw [show ((0 : Int)).toNat = 0 from rfl] at hw324_0)
     (try rw [show 0 * 1 = 0 from rfl] at hw324_0)
     (try rw [Addr.add_zero'] at hw324_0)
     cases e324
     have qi324 : (0 < l0_0.length) = True := eq_true (by omega)
     (try rw [show ((0 : Int)).toNat = 0 from rfl] at hx324_0)
     (try rw [Addr.add_zero'] at hx324_0)
     replace hx324_0 := (HB.out.cell (World.block_lt_of_cell? w _ hx324_0)).trans hx324_0
     replace p324 := eq_true p324
     replace q324 := eq_true q324
     have p325 : 0 ≤ (1 : Int) := (by omega)
     have q325 : 1 < (l0_0.length : Int) := of_decide_eq_true (by first | (with_reducible assumption) | assumption)
     obtain ⟨ad325, e325, hx325_0⟩ := Kd.at_int HR0_0.out 1 p325 q325
     have hw325_0 := hx325_0
     (try rw [show ((1 : Int)).toNat = 1 from rfl] at hw325_0)
     (try rw [show 1 * 1 = 1 from rfl] at hw325_0)
     (try simp only [Nat.reduceMul, Nat.reduceEqDiff, Go.Addr.add, ↓reduceIte] at hw325_0)
     obtain rfl : ad324 = ad325 := (by injection e325)
     (try simp only [show (1 : Int).toNat = 1 from rfl, Nat.reduceMul, Nat.reduceEqDiff, Go.Addr.add, ↓reduceIte] at hx325_0)
     have qi325 : (1 < l0_0.length) = True := eq_true (by omega)
     (try rw [show ((1 : Int)).toNat = 1 from rfl] at hx325_0)
     replace hx325_0 := (HB.out.cell (World.block_lt_of_cell? w _ hx325_0)).trans hx325_0
     replace p325 := eq_true p325
     replace q325 := eq_true q325
     have p326 : 0 ≤ (1 : Int) := (by omega)
     have q326 : 1 < (l1_0.length : Int) := of_decide_eq_true (by first | (with_reducible assumption) | assumption)
     obtain ⟨ad326, e326, hx326_0⟩ := Kd.at_int HR1_0.out 1 p326 q326
     have hw326_0 := hx326_0
     (try rw [show ((1 : Int)).toNat = 1 from rfl] at hw326_0)
     (try rw [show 1 * 1 = 1 from rfl] at hw326_0)
     (try simp only [Nat.reduceMul, Nat.reduceEqDiff, Go.Addr.add, ↓reduceIte] at hw326_0)
     cases e326
     (try simp only [show (1 : Int).toNat = 1 from rfl, Nat.reduceMul, Nat.reduceEqDiff, Go.Addr.add, ↓reduceIte] at hx326_0)
     have qi326 : (1 < l1_0.length) = True := eq_true (by omega)
     (try rw [show ((1 : Int)).toNat = 1 from rfl] at hx326_0)
     replace hx326_0 := (HB.out.cell (World.block_lt_of_cell? w _ hx326_0)).trans hx326_0
     replace p326 := eq_true p326
     replace q326 := eq_true q326
     have p327 : 0 ≤ (2 : Int) := (by omega)
     have q327 : 2 < (l1_0.length : Int) := of_decide_eq_true (by first | (with_reducible assumption) | assumption)
     obtain ⟨ad327, e327, hx327_0⟩ := Kd.at_int HR1_0.out 2 p327 q327
     have hw327_0 := hx327_0
     (try rw [show ((2 : Int)).toNat = 2 from rfl] at hw327_0)
     (try rw [show 2 * 1 = 2 from rfl] at hw327_0)
     (try simp only [Nat.reduceMul, Nat.reduceEqDiff, Go.Addr.add, ↓reduceIte] at hw327_0)
     obtain rfl : ad326 = ad327 := (by injection e327)
     (try simp only [show (2 : Int).toNat = 2 from rfl, Nat.reduceMul, Nat.reduceEqDiff, Go.Addr.add, ↓reduceIte] at hx327_0)
     have qi327 : (2 < l1_0.length) = True := eq_true (by omega)
     (try rw [show ((2 : Int)).toNat = 2 from rfl] at hx327_0)
     replace hx327_0 := (HB.out.cell (World.block_lt_of_cell? w _ hx327_0)).trans hx327_0
     replace p327 := eq_true p327
     replace q327 := eq_true q327
     refine start_ (n := 20) (S := fun w' => w'.cell? ⟨gb314, 0, none⟩ = some (.slice (some ad324) l0_0.length c0_0) ∧ w'.cell? ⟨gb314, 1, none⟩ = some (.slice A0_1 l0_1.length c0_1) ∧ w'.cell? ⟨gb315, 0, none⟩ = some (.slice (some ad326) l1_0.length c1_0) ∧ w'.cell? ⟨gb315, 1, none⟩ = some (.slice A1_1 l1_1.length c1_1) ∧ w'.cell? ad324 = some (.int .i64 (rd l0_0 0)) ∧ w'.cell? ⟨ad324.block, ad324.off + 1, none⟩ = some (.int .i64 (rd l0_0 1)) ∧ w'.cell? ⟨ad326.block, ad326.off + 1, none⟩ = some (.int .i64 (rd l1_0 1)) ∧ w'.cell? ⟨ad326.block, ad326.off + 2, none⟩ = some (.int .i64 (rd l1_0 2))) (ds := []) #[false, false, false, false, false, false, false, false, false, false, false, false, false, false, false, false, false, false, false, false] (by kernel_rfl) rfl rfl ⟨(blk_cell BK314.out 0).trans rfl, (blk_cell BK314.out 1).trans rfl, (blk_cell BK315.out 0).trans rfl, (blk_cell BK315.out 1).trans rfl, ((HB.out.cell (World.block_lt_of_cell? w _ hw324_0)).trans hw324_0), ((HB.out.cell (World.block_lt_of_cell? w _ hw325_0)).trans hw325_0), ((HB.out.cell (World.block_lt_of_cell? w _ hw326_0)).trans hw326_0), ((HB.out.cell (World.block_lt_of_cell? w _ hw327_0)).trans hw327_0)⟩ (fun hHeld => ?_); refine with_tabW carouselref5_BackIn.tab5 carouselref5_BackIn.bits5 (fun HT_ HW_ => ?_)
     generalize wc.drew = w85 at BK314 BK315 BK316 HB hx324_0 hx325_0 hx326_0 hx327_0 hHeld ⊢
     refine yp_ ?_ 0 92
     refine yp_ ?_ 4 96
     refine yp_ ?_ 8 100
     refine yp_ ?_ 12 104
     refine yt8_ ?_ 1 93
     refine yp_ ?_ 2 94
     refine yt8_ ?_ 3 95
     refine yp_ ?_ 16 10
     refine yt8_ ?_ 5 97
     refine yp_ ?_ 6 98
     refine yt8_ ?_ 7 99
     refine yp_ ?_ 17 11
     refine yt8_ ?_ 9 101
     refine yp_ ?_ 10 102
     refine yt8_ ?_ 11 103
     refine yp_ ?_ 18 12
     refine yt8_ ?_ 13 105
     refine yp_ ?_ 14 106
     refine yt8_ ?_ 15 107
     refine yp_ ?_ 19 13
     refine done_ (done_of HT_.out (by kernel_rfl)) ?_
     try go_wp2_with (first | ((with_reducible refine gate_dst (N := 110) rfl ?_); (try (refine gate_guard (by rfl) ?_; dsimp only)); refine Kd.R_lit (Kd.int .i64) _ 3 ?hg (N := 110) ?hd (xs := ([rd l1_0 1, a3] : List Int)) (inner := [.int .i64 (rd l1_0 1), .int .i64 a3]) (ok := fun _ => True) (okp := fun _ => True) ?hr ?hp (fun _ hk => hk) trivial (Below.refl _ _) (Nat.le_refl _) (by simp) ?_; (case hd => rfl); (case hg => rfl); (case hr => first | (go_simp; done) | (go_simp; rfl)); (case hp => exact (Reps.one (show Kd.M (Kd.int .i64) _ _ _ (rd l1_0 1) [.int .i64 (rd l1_0 1)] from rfl) (Reps.one (show Kd.M (Kd.int .i64) _ _ _ a3 [.int .i64 a3] from rfl) (Reps.none _ _)))); intro v329 w86 ho87 hb hg_ hnew_; clear hg_ hnew_; (first | rw [← Ny328.out] at ho87 | (simp only [Int.reduceToNat] at ho87; rw [← Ny328.out] at ho87)); have HO330 := Aside0.mk (Kd.R_lower ho87 (below_size (zw3_ HB GE314 GE315 GE316))); replace BK314 := za_ BK314 hb; replace BK315 := za_ BK315 hb; replace BK316 := za_ BK316 hb; replace HB := Aside0.mk (below_step (zw3_ HB GE314 GE315 GE316) hb); clear hb ho87; obtain ⟨Ao88, co88, eo88⟩ := Kd.R_slice HO330.out; subst eo88) | ((with_reducible refine gate_callee (f := 33) rfl ?_); refine zg_ (some 111) Try.func33 #[.slice Ao88 y328.length co88] (h := ?_); (with_reducible refine (carouselref5_Good.calls kj58 _ _ y328 true _ ?side1 ?side2 A82.out).mono ?_); (case side1 => exact zk_ ((Kd.R_reads' HO330.out).2.2)); (case side2 => exact (Kd.R_reads' HO330.out).2.1); rintro e w' ⟨rfl, ⟨nd, rfl⟩⟩; refine ⟨_, rfl, ?_⟩; (try (rw [drewN_self w86]; generalize hq_ : World.drewN w86 _ = w86; have n0_ : Aside0 (Kd.R (Kd.int .i64) 3 w86 w.heap.size (fun _ => True) (.slice Ao88 y328.length co88) y328) := ⟨by rw [← hq_]; exact (zr_ HO330.out)⟩; have n1_ : Aside0 (w86.heap[gb314]? = some (.cells #[.slice (some ad324) l0_0.length c0_0, .slice A0_1 l0_1.length c0_1] 25 (0, 0))) := ⟨by rw [← hq_]; exact (zb_ BK314)⟩; have n2_ : Aside0 (w86.heap[gb315]? = some (.cells #[.slice (some ad326) l1_0.length c1_0, .slice A1_1 l1_1.length c1_1] 25 (0, 0))) := ⟨by rw [← hq_]; exact (zb_ BK315)⟩; have n3_ : Aside0 (w86.heap[gb316]? = some (.cells #[.slice none 0 0, .slice none 0 0] 25 (0, 0))) := ⟨by rw [← hq_]; exact (zb_ BK316)⟩; have n4_ : Aside0 (Below w.heap.size w w86) := ⟨by rw [← hq_]; exact (zw3_ HB GE314 GE315 GE316)⟩; clear HO330 BK314 BK315 BK316 HB hq_; have HO330 := n0_; have BK314 := n1_; have BK315 := n2_; have BK316 := n3_; have HB := n4_; clear n0_ n1_ n2_ n3_ n4_))) | ((with_reducible refine gate_dst (N := 116) rfl ?_); (try (refine gate_guard (by rfl) ?_; dsimp only)); refine Kd.R_lit (Kd.int .i64) _ 3 ?hg (N := 116) ?hd (xs := ([rd l1_0 1, a3] : List Int)) (inner := [.int .i64 (rd l1_0 1), .int .i64 a3]) (ok := fun _ => True) (okp := fun _ => True) ?hr ?hp (fun _ hk => hk) trivial (Below.refl _ _) (Nat.le_refl _) (by simp) ?_; (case hd => rfl); (case hg => rfl); (case hr => first | (go_simp; done) | (go_simp; rfl)); (case hp => exact (Reps.one (show Kd.M (Kd.int .i64) _ _ _ (rd l1_0 1) [.int .i64 (rd l1_0 1)] from rfl) (Reps.one (show Kd.M (Kd.int .i64) _ _ _ a3 [.int .i64 a3] from rfl) (Reps.none _ _)))); intro v333 w89 ho90 hb hg_ hnew_; clear hg_ hnew_; (first | rw [← Ny332.out] at ho90 | (simp only [Int.reduceToNat] at ho90; rw [← Ny332.out] at ho90)); have HO334 := Aside0.mk (Kd.R_lower (Kd.R_new' ho90 (Kd.R_lt (zr_ HO330.out))) (below_size (zw3_ HB GE314 GE315 GE316))); replace HO330 := ze_ HO330 ho90 hb; replace BK314 := za_ BK314 hb; replace BK315 := za_ BK315 hb; replace BK316 := za_ BK316 hb; replace HB := Aside0.mk (below_step (zw3_ HB GE314 GE315 GE316) hb); clear hb ho90; obtain ⟨Ao91, co91, eo91⟩ := Kd.R_slice HO334.out; subst eo91) | ((with_reducible refine gate_callee (f := 34) rfl ?_); refine zg_ (some 117) Try.func34 #[.slice Ao91 y332.length co91, .int .i64 0] (h := ?_); (with_reducible refine (carouselref5_New.calls kj58 _ _ y332 0 t335 t338 _ ?side1 ?side2 A84.out).mono ?_); (case side1 => exact zk_ ((Kd.R_reads' HO334.out).2.2)); (case side2 => exact (Kd.R_reads' HO334.out).2.1); rintro e w92 ⟨v336, v339, rfl, ho0, ho1, hb⟩; refine ⟨_, rfl, ?_⟩; have HO337 := Aside0.mk (Kd.R_lower (Kd.R_new' (Kd.R_new' ho0 (Kd.R_lt (zr_ HO330.out))) (Kd.R_lt (zr_ HO334.out))) (below_size (zw3_ HB GE314 GE315 GE316))); replace HO330 := ze_ HO330 ho0 hb; replace HO334 := ze_ HO334 ho0 hb; have HO340 := Aside0.mk (Kd.R_lower ho1 (below_size (zw3_ HB GE314 GE315 GE316))); replace BK314 := za_ BK314 hb; replace BK315 := za_ BK315 hb; replace BK316 := za_ BK316 hb; replace HB := Aside0.mk (below_step (zw3_ HB GE314 GE315 GE316) hb); (try clear hb); (try clear ho0); (try clear ho1)) | ((with_reducible refine gate_dst (N := 14) rfl ?_); (try (refine gate_guard (by rfl) ?_; dsimp only)); refine box_event ?hg (N := 14) ?hd (cs := #[.slice none 0 0, .slice none 0 0]) (t := 25) ?hr ?_; (case hd => rfl); (case hg => rfl); (case hr => first | (go_simp; done) | (go_simp; rfl)); intro gb341 hg w93 hbox hb; replace HO330 := zy_ HO330 hb; replace HO334 := zy_ HO334 hb; replace HO337 := zy_ HO337 hb; replace HO340 := zy_ HO340 hb; have BK341 := Aside0.mk (hbox); have GW341 := Aside0.mk (zs_ hg (zw3_ HB GE314 GE315 GE316)); have GE341 := Aside0.mk (zs_ hg (zw3_ HB GE314 GE315 GE316)); replace HB := Aside0.mk (below_step (zw3_ HB GE314 GE315 GE316) hb); have NB314_341 := Aside0.mk (zn_ hg BK314); have NB341_314 := Aside0.mk (zm_ hg BK314); replace BK314 := za_ BK314 hb; have NB315_341 := Aside0.mk (zn_ hg BK315); have NB341_315 := Aside0.mk (zm_ hg BK315); replace BK315 := za_ BK315 hb; have NB316_341 := Aside0.mk (zn_ hg BK316); have NB341_316 := Aside0.mk (zm_ hg BK316); replace BK316 := za_ BK316 hb; clear hb hbox hg; obtain ⟨Ao94, co94, eo94⟩ := Kd.R_slice HO337.out; subst eo94; have hnb95 := NB341_314.out; have hnc95 := NB314_341.out; have hnb96 := NB341_315.out; have hnc96 := NB315_341.out; have hnb97 := NB341_316.out; have hnc97 := NB316_341.out; have hcz98_0 := zx_ (v := .slice none 0 0) BK341 0; have hcz98_1 := zx_ (v := .slice none 0 0) BK341 1; have hfz98_0 := blk_frozen BK341.out 0; have hfz98_1 := blk_frozen BK341.out 1; obtain ⟨Ao99, co99, eo99⟩ := Kd.R_slice HO340.out; subst eo99))
     go_loopg [15] kj58 (fun kq v15 w' => ∃ (x15_3 : Int) (x342001_3 : List Int) (u342001 : Value), v15 = .int .i64 x15_3 ∧ Aside0 (carouselref5_BackIn.l0 kq a2 a3 (rd l0_0 0) (rd l0_0 1) (rd l1_0 1) (rd l1_0 2) x15_3 l0_0 l0_1 l1_0 l1_1 t335 x342001_3 = some (r1, r2, r3)) ∧ Aside0 (kq ≤ kj58) ∧ Aside0 (Kd.R (Kd.int .i64) 3 w' w.heap.size (fun _ => True) (.slice Ao94 t335.length co94) t335) ∧ Aside0 (Kd.R (Kd.int .i64) 33 w' w.heap.size (fun _ => True) u342001 x342001_3) ∧ Aside0 (w'.heap[gb314]? = some (.cells #[(.slice (some ad324) l0_0.length c0_0), (.slice A0_1 l0_1.length c0_1)] 25 (0, 0))) ∧ Aside0 (w'.heap[gb315]? = some (.cells #[(.slice (some ad326) l1_0.length c1_0), (.slice A1_1 l1_1.length c1_1)] 25 (0, 0))) ∧ Aside0 (w'.heap[gb316]? = some (.cells #[(.slice none 0 0), (.slice none 0 0)] 25 (0, 0))) ∧ Aside0 (w'.heap[gb341]? = some (.cells #[(.slice Ao94 t335.length co94), u342001] 25 (0, 0))) ∧ Aside0 (Below w.heap.size w w'))
     case atStart => exact ⟨(0), (t338), (.slice Ao99 t338.length co99), z1_, H', ⟨Nat.le_refl _⟩, ⟨zr_ (Kd.R_mono (Kd.R_far (p := ⟨gb341, 1, none⟩) (Kd.R_far (p := ⟨gb341, 0, none⟩) (Kd.R_types HO337.out BK341.out (by decide)) (fun _ hk => hk.2) (.slice Ao94 t335.length co94)) (fun _ hk => hk.2) (.slice Ao99 t338.length co99)) (fun _ hk => trivial))⟩, ⟨zr_ (Kd.R_mono (Kd.R_far (p := ⟨gb341, 1, none⟩) (Kd.R_far (p := ⟨gb341, 0, none⟩) (Kd.R_types HO340.out BK341.out (by decide)) (fun _ hk => hk.2) (.slice Ao94 t335.length co94)) (fun _ hk => hk.2) (.slice Ao99 t338.length co99)) (fun _ hk => trivial))⟩, ⟨zv1_ BK314 NB314_341⟩, ⟨zv1_ BK315 NB315_341⟩, ⟨zv1_ BK316 NB316_341⟩, ⟨zo2_ BK341⟩, ⟨zw4_ HB GE314 GE315 GE316 GE341⟩⟩
     case round =>
      as_aux_lemma =>
       clear H'
       try clear c1
       try clear p2
       try clear c3
       try clear p3
       try clear q3
       try clear hx3
       try clear qi3
       try clear c6
       try clear c7
       try clear c8
       try clear c9
       try clear p32
       try clear q32
       try clear hx32
       try clear qi32
       try clear c33
       try clear c34
       try clear c60
       try clear c60b0
       try clear c60b1
       try clear c61
       try clear c61b0
       try clear c61b1
       try clear c62
       try clear c63
       try clear c74
       try clear c75
       try clear c76
       try clear c78
       try clear c78b0
       try clear c78b1
       try clear c79
       try clear c79b0
       try clear c79b1
       try clear c80
       try clear c80b0
       try clear c80b1
       try clear c81
       try clear c81b0
       try clear c81b1
       try clear c83
       try clear c95
       try clear c96
       try clear c97
       try clear hcz77_0
       try clear hcz77_1
       try clear hcz98_0
       try clear hcz98_1
       try clear hfz77_0
       try clear hfz77_1
       try clear hfz98_0
       try clear hfz98_1
       try clear hx324_0
       try clear hx325_0
       try clear hx326_0
       try clear hx327_0
       try clear p2
       try clear p324
       try clear p325
       try clear p326
       try clear p327
       try clear q324
       try clear q325
       try clear q326
       try clear q327
       obtain ⟨x15_3, x342001_3, u342001, rfl, HA, HK3, HO_342000, HO_342001, BK314, BK315, BK316, BK341, HB⟩ := hrel
       cases gk with
       | zero => exact absurd HA.out (by simp [carouselref5_BackIn.l0])
       | succ k3 =>
        have H := HA.out
        clear HA
        simp only [carouselref5_BackIn.l0] at H
        by_cases c100 : x15_3 < (rd l1_0 1)
        rotate_left
        ·rw [if_neg c100] at H
         have c100b0 : decide (x15_3 < (rd l1_0 1)) = false := decide_eq_false c100
         clear c100
         simp only [Option.some.injEq, Prod.mk.injEq] at H
         obtain ⟨rfl, rfl, rfl⟩ := H
         have hnb139 := NB341_314.out
         have hnc139 := NB314_341.out
         have hnb140 := NB341_315.out
         have hnc140 := NB315_341.out
         have hnb141 := NB341_316.out
         have hnc141 := NB316_341.out
         have hcz142_0 := zx_ (v := .slice Ao94 t335.length co94) BK341 0
         have hcz142_1 := zx_ (v := u342001) BK341 1
         have hfz142_0 := blk_frozen BK341.out 0
         have hfz142_1 := blk_frozen BK341.out 1
         have hnb143 := NB316_314.out
         have hnc143 := NB314_316.out
         have hnb144 := NB316_315.out
         have hnc144 := NB315_316.out
         have hcz145_0 := zx_ (v := .slice none 0 0) BK316 0
         have hcz145_1 := zx_ (v := .slice none 0 0) BK316 1
         have hfz145_0 := blk_frozen BK316.out 0
         have hfz145_1 := blk_frozen BK316.out 1
         obtain ⟨Ao146, co146, eo146⟩ := Kd.R_slice HO_342001.out
         subst eo146
         go_wp2
         refine bodyPost_ret (results_ct rfl _ _ gb316 25 #[.slice Ao94 t335.length co94, .slice Ao146 x342001_3.length co146] (0, 0) _ rfl (zo2_ BK316) Try.underlying25 rfl (by kernel_rfl)) rfl ?_
         exact ⟨_, _, z0_, zr_ (Kd.R_mono (Kd.R_far (p := ⟨gb316, 1, none⟩) (Kd.R_far (p := ⟨gb316, 0, none⟩) (Kd.R_types HO_342000.out BK316.out (by decide)) (fun _ hk => hk.2) (.slice Ao94 t335.length co94)) (fun _ hk => hk.2) (.slice Ao146 x342001_3.length co146)) (fun _ hk => trivial)), zr_ (Kd.R_mono (Kd.R_far (p := ⟨gb316, 1, none⟩) (Kd.R_far (p := ⟨gb316, 0, none⟩) (Kd.R_types HO_342001.out BK316.out (by decide)) (fun _ hk => hk.2) (.slice Ao94 t335.length co94)) (fun _ hk => hk.2) (.slice Ao146 x342001_3.length co146)) (fun _ hk => trivial)), zw4_ HB GE314 GE315 GE316 GE341⟩
        rw [if_pos c100] at H
        have c100b0 : decide (x15_3 < (rd l1_0 1)) = true := decide_eq_true c100
        clear c100
        have H' := Aside0.mk H
        clear H
        go_wp2
        go_loopg [16] k3 (fun kq v16 w' => ∃ (x16_4 : Int) (x342001_4 : List Int) (u342001 : Value), v16 = .int .i64 x16_4 ∧ Aside0 (carouselref5_BackIn.l1 kq a2 a3 (rd l0_0 0) (rd l0_0 1) (rd l1_0 1) (rd l1_0 2) x15_3 x16_4 l0_0 l0_1 l1_0 l1_1 t335 x342001_4 = some (r1, r2, r3)) ∧ Aside0 (kq ≤ k3) ∧ Aside0 (Kd.R (Kd.int .i64) 3 w' w.heap.size (fun _ => True) (.slice Ao94 t335.length co94) t335) ∧ Aside0 (Kd.R (Kd.int .i64) 33 w' w.heap.size (fun _ => True) u342001 x342001_4) ∧ Aside0 (w'.heap[gb314]? = some (.cells #[(.slice (some ad324) l0_0.length c0_0), (.slice A0_1 l0_1.length c0_1)] 25 (0, 0))) ∧ Aside0 (w'.heap[gb315]? = some (.cells #[(.slice (some ad326) l1_0.length c1_0), (.slice A1_1 l1_1.length c1_1)] 25 (0, 0))) ∧ Aside0 (w'.heap[gb316]? = some (.cells #[(.slice none 0 0), (.slice none 0 0)] 25 (0, 0))) ∧ Aside0 (w'.heap[gb341]? = some (.cells #[(.slice Ao94 t335.length co94), u342001] 25 (0, 0))) ∧ Aside0 (Below w.heap.size w w'))
        case atStart => exact ⟨(0), (x342001_3), (u342001), z1_, H', ⟨Nat.le_refl _⟩, ⟨zr_ HO_342000.out⟩, ⟨zr_ HO_342001.out⟩, ⟨zb_ BK314⟩, ⟨zb_ BK315⟩, ⟨zb_ BK316⟩, ⟨zb_ BK341⟩, ⟨zw4_ HB GE314 GE315 GE316 GE341⟩⟩
        case round =>
         as_aux_lemma =>
          clear H'
          try clear c1
          try clear p2
          try clear c3
          try clear p3
          try clear q3
          try clear hx3
          try clear qi3
          try clear c6
          try clear c7
          try clear c8
          try clear c9
          try clear c10
          try clear p32
          try clear q32
          try clear hx32
          try clear qi32
          try clear c33
          try clear c34
          try clear c60
          try clear c60b0
          try clear c60b1
          try clear c61
          try clear c61b0
          try clear c61b1
          try clear c62
          try clear c63
          try clear c74
          try clear c75
          try clear c76
          try clear c78
          try clear c78b0
          try clear c78b1
          try clear c79
          try clear c79b0
          try clear c79b1
          try clear c80
          try clear c80b0
          try clear c80b1
          try clear c81
          try clear c81b0
          try clear c81b1
          try clear c83
          try clear c95
          try clear c96
          try clear c97
          try clear c100
          try clear c100b0
          try clear hcz77_0
          try clear hcz77_1
          try clear hcz98_0
          try clear hcz98_1
          try clear hfz77_0
          try clear hfz77_1
          try clear hfz98_0
          try clear hfz98_1
          try clear hx324_0
          try clear hx325_0
          try clear hx326_0
          try clear hx327_0
          try clear p2
          try clear p3
          try clear p32
          try clear p324
          try clear p325
          try clear p326
          try clear p327
          try clear q3
          try clear q32
          try clear q324
          try clear q325
          try clear q326
          try clear q327
          obtain ⟨x16_4, x342001_4, u342001, rfl, HA, HK4, HO_342000, HO_342001, BK314, BK315, BK316, BK341, HB⟩ := hrel
          cases gk with
          | zero => exact absurd HA.out (by simp [carouselref5_BackIn.l1])
          | succ k4 =>
           have H := HA.out
           clear HA
           simp only [carouselref5_BackIn.l1] at H
           by_cases c101 : x16_4 < a3
           rotate_left
           ·rw [if_neg c101] at H
            have c101b0 : decide (x16_4 < a3) = false := decide_eq_false c101
            clear c101
            have H' := Aside0.mk H
            clear H
            go_wp2
            go_roundg k4
            case measure => have := HJ4.out; have := HJ58.out; have := HK3.out; have := HK4.out; omega
            case rel => exact ⟨(wrap64 (x15_3 + 1)), (x342001_4), (u342001), z1_, H', ⟨by have := HJ4.out; have := HJ58.out; have := HK3.out; have := HK4.out; omega⟩, ⟨zr_ HO_342000.out⟩, ⟨zr_ HO_342001.out⟩, ⟨zb_ BK314⟩, ⟨zb_ BK315⟩, ⟨zb_ BK316⟩, ⟨zb_ BK341⟩, ⟨zw4_ HB GE314 GE315 GE316 GE341⟩⟩
           rw [if_pos c101] at H
           have c101b0 : decide (x16_4 < a3) = true := decide_eq_true c101
           clear c101
           have H' := Aside0.mk H
           clear H
           go_wp2_with (first | ((with_reducible refine gate_dst (N := 17) rfl ?_); (try (refine gate_guard (by rfl) ?_; dsimp only)); refine box_event ?hg (N := 17) ?hd (cs := #[.bool false, .int .u64 0, .int .u64 0, .int .u64 0, .int .u64 0]) (t := 61) ?hr ?_; (case hd => rfl); (case hg => rfl); (case hr => first | (go_simp; done) | (go_simp; rfl)); intro gb342 hg w102 hbox hb; replace HO_342000 := zy_ HO_342000 hb; replace HO_342001 := zy_ HO_342001 hb; have BK342 := Aside0.mk (hbox); have GW342 := Aside0.mk (zs_ hg (zw4_ HB GE314 GE315 GE316 GE341)); have GE342 := Aside0.mk (zs_ hg (zw4_ HB GE314 GE315 GE316 GE341)); replace HB := Aside0.mk (below_step (zw4_ HB GE314 GE315 GE316 GE341) hb); have NB314_342 := Aside0.mk (zn_ hg BK314); have NB342_314 := Aside0.mk (zm_ hg BK314); replace BK314 := za_ BK314 hb; have NB315_342 := Aside0.mk (zn_ hg BK315); have NB342_315 := Aside0.mk (zm_ hg BK315); replace BK315 := za_ BK315 hb; have NB316_342 := Aside0.mk (zn_ hg BK316); have NB342_316 := Aside0.mk (zm_ hg BK316); replace BK316 := za_ BK316 hb; have NB341_342 := Aside0.mk (zn_ hg BK341); have NB342_341 := Aside0.mk (zm_ hg BK341); replace BK341 := za_ BK341 hb; clear hb hbox hg; have hnb103 := NB342_314.out; have hnc103 := NB314_342.out; have hnb104 := NB342_315.out; have hnc104 := NB315_342.out; have hnb105 := NB342_316.out; have hnc105 := NB316_342.out; have hnb106 := NB342_341.out; have hnc106 := NB341_342.out; have hcz107_0 := zx_ (v := .bool false) BK342 0; have hcz107_1 := zx_ (v := .int .u64 0) BK342 1; have hcz107_2 := zx_ (v := .int .u64 0) BK342 2; have hcz107_3 := zx_ (v := .int .u64 0) BK342 3; have hcz107_4 := zx_ (v := .int .u64 0) BK342 4; have hfz107_0 := blk_frozen BK342.out 0; have hfz107_1 := blk_frozen BK342.out 1; have hfz107_2 := blk_frozen BK342.out 2; have hfz107_3 := blk_frozen BK342.out 3; have hfz107_4 := blk_frozen BK342.out 4))
           go_loopg [18] k4 (fun kq v18 w' => ∃ (x18_5 : Int) (x343000_5 : Bool) (x343001_5 : Int) (x343002_5 : Int) (x343003_5 : Int) (x343004_5 : Int), v18 = .int .i64 x18_5 ∧ Aside0 (carouselref5_BackIn.l2 kq a2 a3 (rd l0_0 0) (rd l0_0 1) (rd l1_0 1) (rd l1_0 2) x15_3 x16_4 x18_5 l0_0 l0_1 l1_0 l1_1 t335 x342001_4 x343000_5 x343001_5 x343002_5 x343003_5 x343004_5 = some (r1, r2, r3)) ∧ Aside0 (kq ≤ k4) ∧ Aside0 (Kd.R (Kd.int .i64) 3 w' w.heap.size (fun _ => True) (.slice Ao94 t335.length co94) t335) ∧ Aside0 (Kd.R (Kd.int .i64) 33 w' w.heap.size (fun _ => True) u342001 x342001_4) ∧ Aside0 (w'.heap[gb314]? = some (.cells #[(.slice (some ad324) l0_0.length c0_0), (.slice A0_1 l0_1.length c0_1)] 25 (0, 0))) ∧ Aside0 (w'.heap[gb315]? = some (.cells #[(.slice (some ad326) l1_0.length c1_0), (.slice A1_1 l1_1.length c1_1)] 25 (0, 0))) ∧ Aside0 (w'.heap[gb316]? = some (.cells #[(.slice none 0 0), (.slice none 0 0)] 25 (0, 0))) ∧ Aside0 (w'.heap[gb341]? = some (.cells #[(.slice Ao94 t335.length co94), u342001] 25 (0, 0))) ∧ Aside0 (w'.heap[gb342]? = some (.cells #[.bool x343000_5, .int .u64 x343001_5, .int .u64 x343002_5, .int .u64 x343003_5, .int .u64 x343004_5] 61 (0, 0))) ∧ Aside0 (Below w.heap.size w w'))
           case atStart => exact ⟨(0), (false), (0), (0), (0), (0), z1_, H', ⟨Nat.le_refl _⟩, ⟨zr_ (Kd.R_mono (Kd.R_far (p := ⟨gb342, 4, none⟩) (Kd.R_far (p := ⟨gb342, 3, none⟩) (Kd.R_far (p := ⟨gb342, 2, none⟩) (Kd.R_far (p := ⟨gb342, 1, none⟩) (Kd.R_far (p := ⟨gb342, 0, none⟩) (Kd.R_types HO_342000.out BK342.out (by decide)) (fun _ hk => hk.2) (.bool false)) (fun _ hk => hk.2) (.int .u64 0)) (fun _ hk => hk.2) (.int .u64 0)) (fun _ hk => hk.2) (.int .u64 0)) (fun _ hk => hk.2) (.int .u64 0)) (fun _ hk => trivial))⟩, ⟨zr_ (Kd.R_mono (Kd.R_far (p := ⟨gb342, 4, none⟩) (Kd.R_far (p := ⟨gb342, 3, none⟩) (Kd.R_far (p := ⟨gb342, 2, none⟩) (Kd.R_far (p := ⟨gb342, 1, none⟩) (Kd.R_far (p := ⟨gb342, 0, none⟩) (Kd.R_types HO_342001.out BK342.out (by decide)) (fun _ hk => hk.2) (.bool false)) (fun _ hk => hk.2) (.int .u64 0)) (fun _ hk => hk.2) (.int .u64 0)) (fun _ hk => hk.2) (.int .u64 0)) (fun _ hk => hk.2) (.int .u64 0)) (fun _ hk => trivial))⟩, ⟨zv1_ BK314 NB314_342⟩, ⟨zv1_ BK315 NB315_342⟩, ⟨zv1_ BK316 NB316_342⟩, ⟨zv1_ BK341 NB341_342⟩, ⟨zo5_ BK342⟩, ⟨zw5_ HB GE314 GE315 GE316 GE341 GE342⟩⟩
           case round =>
            as_aux_lemma =>
             clear H'
             try clear c1
             try clear p2
             try clear c3
             try clear p3
             try clear q3
             try clear hx3
             try clear qi3
             try clear c6
             try clear c7
             try clear c8
             try clear c9
             try clear c10
             try clear p32
             try clear q32
             try clear hx32
             try clear qi32
             try clear c33
             try clear c34
             try clear c60
             try clear c60b0
             try clear c60b1
             try clear c61
             try clear c61b0
             try clear c61b1
             try clear c62
             try clear c63
             try clear c74
             try clear c75
             try clear c76
             try clear c78
             try clear c78b0
             try clear c78b1
             try clear c79
             try clear c79b0
             try clear c79b1
             try clear c80
             try clear c80b0
             try clear c80b1
             try clear c81
             try clear c81b0
             try clear c81b1
             try clear c83
             try clear c95
             try clear c96
             try clear c97
             try clear c100
             try clear c100b0
             try clear c101
             try clear c101b0
             try clear c103
             try clear c104
             try clear c105
             try clear c106
             try clear hcz107_0
             try clear hcz107_1
             try clear hcz107_2
             try clear hcz107_3
             try clear hcz107_4
             try clear hcz77_0
             try clear hcz77_1
             try clear hcz98_0
             try clear hcz98_1
             try clear hfz107_0
             try clear hfz107_1
             try clear hfz107_2
             try clear hfz107_3
             try clear hfz107_4
             try clear hfz77_0
             try clear hfz77_1
             try clear hfz98_0
             try clear hfz98_1
             try clear hx324_0
             try clear hx325_0
             try clear hx326_0
             try clear hx327_0
             try clear p2
             try clear p3
             try clear p32
             try clear p324
             try clear p325
             try clear p326
             try clear p327
             try clear q3
             try clear q32
             try clear q324
             try clear q325
             try clear q326
             try clear q327
             obtain ⟨x18_5, x343000_5, x343001_5, x343002_5, x343003_5, x343004_5, rfl, HA, HK5, HO_342000, HO_342001, BK314, BK315, BK316, BK341, BK342, HB⟩ := hrel
             cases gk with
             | zero => exact absurd HA.out (by simp [carouselref5_BackIn.l2])
             | succ k5 =>
              have H := HA.out
              clear HA
              simp only [carouselref5_BackIn.l2] at H
              by_cases c108 : x18_5 < (rd l0_0 1)
              rotate_left
              ·rw [if_neg c108] at H
               have c108b0 : decide (x18_5 < (rd l0_0 1)) = false := decide_eq_false c108
               clear c108
               replace H := Option.bind_eq_some_iff.mp H
               obtain ⟨⟨t343, t344, t345, t346, t347⟩, A1290, H⟩ := H
               (try dsimp only at H)
               have A129 := Aside0.mk A1290
               clear A1290
               replace H := Option.bind_eq_some_iff.mp H
               obtain ⟨t348, A1300, H⟩ := H
               (try dsimp only at H)
               have A130 := Aside0.mk A1300
               clear A1300
               obtain ⟨ji131, hji131⟩ : ∃ j_ : Int, (wrap64 ((wrap64 (x15_3 * a3)) + x16_4)) = j_ := ⟨_, rfl⟩
               replace H : (if 0 ≤ (ji131) then (if (ji131) < (x342001_4.length : Int) then (carouselref5_BackIn.l1 k5 a2 a3 (rd l0_0 0) (rd l0_0 1) (rd l1_0 1) (rd l1_0 2) x15_3 (wrap64 (x16_4 + 1)) l0_0 l0_1 l1_0 l1_1 t335 (x342001_4.set ((ji131) : Int).toNat t348)) else (none)) else (none)) = some (r1, r2, r3) := by first | (rw [hji131] at H; exact H) | (simp only [hji131] at H ⊢; exact H)
               (try rw [hji131] at A129)
               (try rw [hji131] at A130)
               have hji131w : (IntKind.i64.wrap ((wrap64 (x15_3 * a3)) + x16_4)) = ji131 := (i64_w _).trans hji131
               by_cases c132 : 0 ≤ (ji131)
               rotate_left
               ·rw [if_neg c132] at H
                exact absurd H (by simp)
               rw [if_pos c132] at H
               have c132b0 : decide (0 ≤ (ji131)) = true := decide_eq_true c132
               clear c132
               by_cases c133 : (ji131) < (x342001_4.length : Int)
               rotate_left
               ·rw [if_neg c133] at H
                exact absurd H (by simp)
               rw [if_pos c133] at H
               have c133b0 : decide ((ji131) < (x342001_4.length : Int)) = true := decide_eq_true c133
               clear c133
               obtain ⟨y349, hy349⟩ : ∃ y_ : List Int, y_ = (x342001_4.set ((ji131) : Int).toNat t348) := ⟨_, rfl⟩
               replace H : (carouselref5_BackIn.l1 k5 a2 a3 (rd l0_0 0) (rd l0_0 1) (rd l1_0 1) (rd l1_0 2) x15_3 (wrap64 (x16_4 + 1)) l0_0 l0_1 l1_0 l1_1 t335 y349) = some (r1, r2, r3) := by first | (rw [hy349]; with_reducible exact H) | (have H2_ := (Option.bind_some _ _).symm.trans H; rw [hy349]; with_reducible exact H2_) | (have H2_ := (Option.bind_some _ _).symm.trans H; with_reducible exact H2_) | with_reducible exact H | (rw [hy349]; exact H) | exact H
               have Ny349 := Aside0.mk hy349
               clear hy349
               have H' := Aside0.mk H
               clear H
               try go_wp2
               replace HO_342000 := Aside0.mk (Kd.R_drew HO_342000.out)
               replace HO_342001 := Aside0.mk (Kd.R_drew HO_342001.out)
               replace BK314 := Aside0.mk (blk_drew BK314.out)
               replace BK315 := Aside0.mk (blk_drew BK315.out)
               replace BK316 := Aside0.mk (blk_drew BK316.out)
               replace BK341 := Aside0.mk (blk_drew BK341.out)
               replace BK342 := Aside0.mk (blk_drew BK342.out)
               replace HB := Aside0.mk (below_drew1 HB.out)
               refine start_ (n := 12) (S := fun w' => w'.cell? ⟨gb341, 0, none⟩ = some (.slice Ao94 t335.length co94) ∧ w'.cell? ⟨gb341, 1, none⟩ = some (u342001) ∧ w'.cell? ⟨gb342, 0, none⟩ = some (.bool x343000_5) ∧ w'.cell? ⟨gb342, 1, none⟩ = some (.int .u64 x343001_5) ∧ w'.cell? ⟨gb342, 2, none⟩ = some (.int .u64 x343002_5) ∧ w'.cell? ⟨gb342, 3, none⟩ = some (.int .u64 x343003_5) ∧ w'.cell? ⟨gb342, 4, none⟩ = some (.int .u64 x343004_5)) (ds := [11]) #[false, false, false, false, false, false, false, false, false, false, false, false] (by kernel_rfl) rfl rfl ⟨(blk_cell BK341.out 0).trans rfl, (blk_cell BK341.out 1).trans rfl, (blk_cell BK342.out 0).trans rfl, (blk_cell BK342.out 1).trans rfl, (blk_cell BK342.out 2).trans rfl, (blk_cell BK342.out 3).trans rfl, (blk_cell BK342.out 4).trans rfl⟩ (fun hHeld => ?_); refine with_tabW carouselref5_BackIn.tab25 carouselref5_BackIn.bits25 (fun HT_ HW_ => ?_)
               generalize wr.drew = w135 at HO_342000 HO_342001 BK314 BK315 BK316 BK341 BK342 HB hHeld ⊢
               refine yp_ ?_ 0 176
               refine yp_ ?_ 2 178
               refine yp_ ?_ 3 179
               refine yp_ ?_ 4 180
               refine yp_ ?_ 5 181
               refine yp_ ?_ 6 182
               refine yt7_ ?_ 1 177
               refine yt7_ ?_ 7 183
               refine yo_ 8 (some 184) (fun K hK => ?_)
               refine yg_ Try.func38 #[.agg #[.bool x343000_5, .int .u64 x343001_5, .int .u64 x343002_5, .int .u64 x343003_5, .int .u64 x343004_5], .int .i64 32] ?_
               with_reducible refine (carouselref1_Halved.calls x343000_5 x343001_5 x343002_5 x343003_5 x343004_5 32 t343 t344 t345 t346 t347 _ A129.out).mono ?_
               rintro e w136 ⟨rfl, hb⟩
               refine ⟨_, rfl, ?_⟩
               replace HO_342000 := zy_ HO_342000 hb
               replace HO_342001 := zy_ HO_342001 hb
               replace BK314 := za_ BK314 hb
               replace BK315 := za_ BK315 hb
               replace BK316 := za_ BK316 hb
               replace BK341 := za_ BK341 hb
               replace BK342 := za_ BK342 hb
               replace HB := Aside0.mk (below_step (zw5_ HB GE314 GE315 GE316 GE341 GE342) hb)
               (try clear hb)
               (try clear hb2)
               (try clear hk)
               (try clear hi)
               refine hK.out _ _ ⟨zx_ BK341 0, zx_ BK341 1, zx_ BK342 0, zx_ BK342 1, zx_ BK342 2, zx_ BK342 3, zx_ BK342 4⟩ (fun hHeld => ?_)
               clear hK K
               refine zq_ (some 184) (h := ?_)
               refine yo_ 9 (some 185) (fun K hK => ?_)
               refine yg_ Try.func37 #[.agg #[.bool t343, .int .u64 t344, .int .u64 t345, .int .u64 t346, .int .u64 t347]] ?_
               with_reducible refine (carouselref1_Held.calls k5 t343 t344 t345 t346 t347 t348 _ A130.out).mono ?_
               rintro e w137 ⟨rfl, hb⟩
               refine ⟨_, rfl, ?_⟩
               replace HO_342000 := zy_ HO_342000 hb
               replace HO_342001 := zy_ HO_342001 hb
               replace BK314 := za_ BK314 hb
               replace BK315 := za_ BK315 hb
               replace BK316 := za_ BK316 hb
               replace BK341 := za_ BK341 hb
               replace BK342 := za_ BK342 hb
               replace HB := Aside0.mk (below_step (zw5_ HB GE314 GE315 GE316 GE341 GE342) hb)
               (try clear hb)
               (try clear hb2)
               (try clear hk)
               (try clear hi)
               have p134 : 0 ≤ ((ji131) : Int) := of_decide_eq_true (by first | (with_reducible assumption) | assumption)
               have q134 : ((ji131) : Int) < ((x342001_4.length : Int) : Int) := of_decide_eq_true (by first | (with_reducible assumption) | assumption)
               obtain ⟨go134, co134, eo134, gb134, gl134, cl134, HG134⟩ := Kd.R_form HO_342001.out (by omega)
               (first | cases eo134 | (injection eo134 with ea_ en_ ec_; (first | subst ea_ | (injection ea_ with ea_; subst ea_)); subst ec_; clear en_))
               have GB134 := Aside0.mk gb134
               have GG134 := Aside0.mk HG134
               clear gb134 gl134 HG134
               obtain ⟨hx134_0, hf134_0⟩ := Kd.R_celln 0 HO_342001.out ((ji131) : Int) p134 q134
               replace p134 := eq_true p134
               replace q134 := eq_true q134
               have HP138 := Kd.R_putn HO_342001.out ((ji131) : Int) t348
               rw [← Ny349.out] at HP138
               have HQ138 := Aside0.mk HP138
               clear HP138
               refine hK.out _ _ ⟨zx_ BK341 0, zx_ BK341 1, zx_ BK342 0, zx_ BK342 1, zx_ BK342 2, zx_ BK342 3, zx_ BK342 4⟩ (fun hHeld => ?_)
               clear hK K
               refine zq_ (some 185) (h := ?_)
               refine yp_ ?_ 10 186
               refine yl_ 11 none (fun K hK => ?_)
               refine skip_ (w1 := ?_) (by rfl) rfl ?_ ?_
               rotate_left
               ·go_simp
                rfl
               refine hK.out _ _ ?_
               clear hK K
               refine done_ (done_of HT_.out (by kernel_rfl)) ?_
               try go_wp2
               go_roundg k5
               case measure => have := HJ4.out; have := HJ58.out; have := HK3.out; have := HK4.out; have := HK5.out; omega
               case rel => exact ⟨(wrap64 (x16_4 + 1)), (y349), (.slice (some ⟨go134, 0, none⟩) x342001_4.length co134), z1_, H', ⟨by have := HJ4.out; have := HJ58.out; have := HK3.out; have := HK4.out; have := HK5.out; omega⟩, ⟨zr_ (Kd.R_mono (Kd.R_far (p := ⟨go134, ((ji131) : Int).toNat, none⟩) (Kd.R_types HO_342000.out GG134.out (by decide)) (fun _ hk => hk.2) (.int .i64 t348)) (fun _ hk => trivial))⟩, ⟨zr_ HQ138.out⟩, ⟨by (with_reducible repeat (first | refine blk_drewN ?_ _ | refine blk_drew ?_ | refine blk_alloc ?_ _)); refine blk_far ?_ (by have h_ := Kd.R_ne HO_342001.out BK314.out (by decide); intro e_; exact h_ (by rw [e_]; rfl)) _; (with_reducible repeat (first | refine blk_drewN ?_ _ | refine blk_drew ?_ | refine blk_alloc ?_ _)); exact BK314.out⟩, ⟨by (with_reducible repeat (first | refine blk_drewN ?_ _ | refine blk_drew ?_ | refine blk_alloc ?_ _)); refine blk_far ?_ (by have h_ := Kd.R_ne HO_342001.out BK315.out (by decide); intro e_; exact h_ (by rw [e_]; rfl)) _; (with_reducible repeat (first | refine blk_drewN ?_ _ | refine blk_drew ?_ | refine blk_alloc ?_ _)); exact BK315.out⟩, ⟨by (with_reducible repeat (first | refine blk_drewN ?_ _ | refine blk_drew ?_ | refine blk_alloc ?_ _)); refine blk_far ?_ (by have h_ := Kd.R_ne HO_342001.out BK316.out (by decide); intro e_; exact h_ (by rw [e_]; rfl)) _; (with_reducible repeat (first | refine blk_drewN ?_ _ | refine blk_drew ?_ | refine blk_alloc ?_ _)); exact BK316.out⟩, ⟨by (with_reducible repeat (first | refine blk_drewN ?_ _ | refine blk_drew ?_ | refine blk_alloc ?_ _)); refine blk_far ?_ (by have h_ := Kd.R_ne HO_342001.out BK341.out (by decide); intro e_; exact h_ (by rw [e_]; rfl)) _; (with_reducible repeat (first | refine blk_drewN ?_ _ | refine blk_drew ?_ | refine blk_alloc ?_ _)); exact BK341.out⟩, ⟨by repeat (first | (with_reducible first | exact HB.out | apply below_alloc | apply pw_below_drewN | apply below_drew1 | refine below_set ?_ GB134.out | refine below_set ?_ GE314.out | refine below_set ?_ GE315.out | refine below_set ?_ GE316.out | refine below_set ?_ GE341.out | refine below_set ?_ GE342.out) | exact HB.out)⟩⟩
              rw [if_pos c108] at H
              have c108b0 : decide (x18_5 < (rd l0_0 1)) = true := decide_eq_true c108
              clear c108
              have HC109 := Aside0.mk H
              clear H
              go_upto_region 20 with (fail)
              go_cut [145] (fun v145 wc => ∃ (kq : Nat) (x145_108 : Bool), v145 = .bool x145_108 ∧ Aside0 (carouselref5_BackIn.j5 kq a2 a3 (rd l0_0 0) (rd l0_0 1) (rd l1_0 1) (rd l1_0 2) x15_3 x16_4 x18_5 (wrap64 (x16_4 - (wrap64 (x18_5 * a2)))) x145_108 l0_0 l0_1 l1_0 l1_1 t335 x342001_4 x343000_5 x343001_5 x343002_5 x343003_5 x343004_5 = some (r1, r2, r3)) ∧ Aside0 (kq ≤ k5) ∧ Aside0 (Kd.R (Kd.int .i64) 3 wc w.heap.size (fun _ => True) (.slice Ao94 t335.length co94) t335) ∧ Aside0 (Kd.R (Kd.int .i64) 33 wc w.heap.size (fun _ => True) u342001 x342001_4) ∧ Aside0 (wc.heap[gb314]? = some (.cells #[(.slice (some ad324) l0_0.length c0_0), (.slice A0_1 l0_1.length c0_1)] 25 (0, 0))) ∧ Aside0 (wc.heap[gb315]? = some (.cells #[(.slice (some ad326) l1_0.length c1_0), (.slice A1_1 l1_1.length c1_1)] 25 (0, 0))) ∧ Aside0 (wc.heap[gb316]? = some (.cells #[(.slice none 0 0), (.slice none 0 0)] 25 (0, 0))) ∧ Aside0 (wc.heap[gb341]? = some (.cells #[(.slice Ao94 t335.length co94), u342001] 25 (0, 0))) ∧ Aside0 (wc.heap[gb342]? = some (.cells #[.bool x343000_5, .int .u64 x343001_5, .int .u64 x343002_5, .int .u64 x343003_5, .int .u64 x343004_5] 61 (0, 0))) ∧ Aside0 (Below w.heap.size w wc))
              case first =>
               have H := HC109.out
               clear HC109
               by_cases c110 : (wrap64 (x16_4 - (wrap64 (x18_5 * a2)))) < 0
               ·rw [if_pos c110] at H
                have c110b0 : decide ((wrap64 (x16_4 - (wrap64 (x18_5 * a2)))) < 0) = true := decide_eq_true c110
                clear c110
                (first | rw [c110b0] | (simp only [i64_w, i32_w]; rw [c110b0]) | skip)
                have H' := Aside0.mk H
                clear H
                go_wp2
                go_meet
                case rel => exact ⟨_, (true), z1_, H', ⟨by have := HJ4.out; have := HJ58.out; have := HK3.out; have := HK4.out; have := HK5.out; first | omega | exact Nat.le_refl _⟩, ⟨zr_ HO_342000.out⟩, ⟨zr_ HO_342001.out⟩, ⟨zb_ BK314⟩, ⟨zb_ BK315⟩, ⟨zb_ BK316⟩, ⟨zb_ BK341⟩, ⟨zb_ BK342⟩, ⟨zw5_ HB GE314 GE315 GE316 GE341 GE342⟩⟩
               rw [if_neg c110] at H
               have c110b0 : decide ((wrap64 (x16_4 - (wrap64 (x18_5 * a2)))) < 0) = false := decide_eq_false c110
               clear c110
               (first | rw [c110b0] | (simp only [i64_w, i32_w]; rw [c110b0]) | skip)
               have H' := Aside0.mk H
               clear H
               go_wp2
               go_meet
               case rel => exact ⟨_, (decide ((wrap64 (x16_4 - (wrap64 (x18_5 * a2)))) ≥ (rd l1_0 2))), z1_, H', ⟨by have := HJ4.out; have := HJ58.out; have := HK3.out; have := HK4.out; have := HK5.out; first | omega | exact Nat.le_refl _⟩, ⟨zr_ HO_342000.out⟩, ⟨zr_ HO_342001.out⟩, ⟨zb_ BK314⟩, ⟨zb_ BK315⟩, ⟨zb_ BK316⟩, ⟨zb_ BK341⟩, ⟨zb_ BK342⟩, ⟨zw5_ HB GE314 GE315 GE316 GE341 GE342⟩⟩
              case rest =>
               clear HC109
               try clear c1
               try clear p2
               try clear c3
               try clear p3
               try clear q3
               try clear hx3
               try clear qi3
               try clear c6
               try clear p6
               try clear c7
               try clear c8
               try clear c9
               try clear c10
               try clear c11
               try clear p32
               try clear q32
               try clear hx32
               try clear qi32
               try clear c33
               try clear c34
               try clear c60
               try clear c60b0
               try clear c60b1
               try clear c61
               try clear c61b0
               try clear c61b1
               try clear c62
               try clear c63
               try clear p64
               try clear c74
               try clear c75
               try clear c76
               try clear c78
               try clear c78b0
               try clear c78b1
               try clear c79
               try clear c79b0
               try clear c79b1
               try clear c80
               try clear c80b0
               try clear c80b1
               try clear c81
               try clear c81b0
               try clear c81b1
               try clear c83
               try clear c95
               try clear c96
               try clear c97
               try clear c100
               try clear c100b0
               try clear c101
               try clear c101b0
               try clear c103
               try clear c104
               try clear c105
               try clear c106
               try clear c108
               try clear c108b0
               try clear c110
               try clear c110b0
               try clear hcz107_0
               try clear hcz107_1
               try clear hcz107_2
               try clear hcz107_3
               try clear hcz107_4
               try clear hcz77_0
               try clear hcz77_1
               try clear hcz98_0
               try clear hcz98_1
               try clear hfz107_0
               try clear hfz107_1
               try clear hfz107_2
               try clear hfz107_3
               try clear hfz107_4
               try clear hfz77_0
               try clear hfz77_1
               try clear hfz98_0
               try clear hfz98_1
               try clear hx324_0
               try clear hx325_0
               try clear hx326_0
               try clear hx327_0
               try clear p2
               try clear p3
               try clear p32
               try clear p324
               try clear p325
               try clear p326
               try clear p327
               try clear q3
               try clear q32
               try clear q324
               try clear q325
               try clear q326
               try clear q327
               obtain ⟨kq, x145_108, rfl, HA, HJ108, HO_342000, HO_342001, BK314, BK315, BK316, BK341, BK342, HB⟩ := hcut
               cases kq with
               | zero => exact absurd HA.out (by simp [carouselref5_BackIn.j5])
               | succ kj108 =>
                have H := HA.out
                clear HA
                simp only [carouselref5_BackIn.j5] at H
                by_cases c111 : x145_108 = true
                ·subst c111
                 have H1 := H
                 rw [if_pos rfl] at H1
                 clear H
                 have H := H1
                 clear H1
                 have H' := Aside0.mk H
                 clear H
                 go_wp2
                 go_roundg kj108
                 case measure => have := HJ4.out; have := HJ58.out; have := HK3.out; have := HK4.out; have := HK5.out; have := HJ108.out; omega
                 case rel => exact ⟨(wrap64 (x18_5 + 1)), (x343000_5), (x343001_5), (x343002_5), (x343003_5), (x343004_5), z1_, H', ⟨by have := HJ4.out; have := HJ58.out; have := HK3.out; have := HK4.out; have := HK5.out; have := HJ108.out; omega⟩, ⟨zr_ HO_342000.out⟩, ⟨zr_ HO_342001.out⟩, ⟨zb_ BK314⟩, ⟨zb_ BK315⟩, ⟨zb_ BK316⟩, ⟨zb_ BK341⟩, ⟨zb_ BK342⟩, ⟨zw5_ HB GE314 GE315 GE316 GE341 GE342⟩⟩
                replace c111 := Bool.eq_false_iff.mpr c111
                subst c111
                have H1 := H
                rw [if_neg (show ¬ (false = true) by decide)] at H1
                clear H
                have H := H1
                clear H1
                have H' := Aside0.mk H
                clear H
                go_wp2
                go_loopg [20] kj108 (fun kq v20 w' => ∃ (x20_7 : Int) (x343000_7 : Bool) (x343001_7 : Int) (x343002_7 : Int) (x343003_7 : Int) (x343004_7 : Int), v20 = .int .i64 x20_7 ∧ Aside0 (carouselref5_BackIn.l3 kq a2 a3 (rd l0_0 0) (rd l0_0 1) (rd l1_0 1) (rd l1_0 2) x15_3 x16_4 x18_5 (wrap64 (x16_4 - (wrap64 (x18_5 * a2)))) x20_7 l0_0 l0_1 l1_0 l1_1 t335 x342001_4 x343000_7 x343001_7 x343002_7 x343003_7 x343004_7 = some (r1, r2, r3)) ∧ Aside0 (kq ≤ kj108) ∧ Aside0 (Kd.R (Kd.int .i64) 3 w' w.heap.size (fun _ => True) (.slice Ao94 t335.length co94) t335) ∧ Aside0 (Kd.R (Kd.int .i64) 33 w' w.heap.size (fun _ => True) u342001 x342001_4) ∧ Aside0 (w'.heap[gb314]? = some (.cells #[(.slice (some ad324) l0_0.length c0_0), (.slice A0_1 l0_1.length c0_1)] 25 (0, 0))) ∧ Aside0 (w'.heap[gb315]? = some (.cells #[(.slice (some ad326) l1_0.length c1_0), (.slice A1_1 l1_1.length c1_1)] 25 (0, 0))) ∧ Aside0 (w'.heap[gb316]? = some (.cells #[(.slice none 0 0), (.slice none 0 0)] 25 (0, 0))) ∧ Aside0 (w'.heap[gb341]? = some (.cells #[(.slice Ao94 t335.length co94), u342001] 25 (0, 0))) ∧ Aside0 (w'.heap[gb342]? = some (.cells #[.bool x343000_7, .int .u64 x343001_7, .int .u64 x343002_7, .int .u64 x343003_7, .int .u64 x343004_7] 61 (0, 0))) ∧ Aside0 (Below w.heap.size w w'))
                case atStart => exact ⟨(0), (x343000_5), (x343001_5), (x343002_5), (x343003_5), (x343004_5), z1_, H', ⟨Nat.le_refl _⟩, ⟨zr_ HO_342000.out⟩, ⟨zr_ HO_342001.out⟩, ⟨zb_ BK314⟩, ⟨zb_ BK315⟩, ⟨zb_ BK316⟩, ⟨zb_ BK341⟩, ⟨zb_ BK342⟩, ⟨zw5_ HB GE314 GE315 GE316 GE341 GE342⟩⟩
                case round =>
                 as_aux_lemma =>
                  clear H'
                  try clear c1
                  try clear p2
                  try clear c3
                  try clear p3
                  try clear q3
                  try clear hx3
                  try clear qi3
                  try clear c6
                  try clear p6
                  try clear c7
                  try clear c8
                  try clear c9
                  try clear c10
                  try clear c11
                  try clear p32
                  try clear q32
                  try clear hx32
                  try clear qi32
                  try clear c33
                  try clear c34
                  try clear c60
                  try clear c60b0
                  try clear c60b1
                  try clear c61
                  try clear c61b0
                  try clear c61b1
                  try clear c62
                  try clear c63
                  try clear p64
                  try clear c74
                  try clear c75
                  try clear c76
                  try clear c78
                  try clear c78b0
                  try clear c78b1
                  try clear c79
                  try clear c79b0
                  try clear c79b1
                  try clear c80
                  try clear c80b0
                  try clear c80b1
                  try clear c81
                  try clear c81b0
                  try clear c81b1
                  try clear c83
                  try clear c95
                  try clear c96
                  try clear c97
                  try clear c100
                  try clear c100b0
                  try clear c101
                  try clear c101b0
                  try clear c103
                  try clear c104
                  try clear c105
                  try clear c106
                  try clear c108
                  try clear c108b0
                  try clear c110
                  try clear c110b0
                  try clear c111
                  try clear hcz107_0
                  try clear hcz107_1
                  try clear hcz107_2
                  try clear hcz107_3
                  try clear hcz107_4
                  try clear hcz77_0
                  try clear hcz77_1
                  try clear hcz98_0
                  try clear hcz98_1
                  try clear hfz107_0
                  try clear hfz107_1
                  try clear hfz107_2
                  try clear hfz107_3
                  try clear hfz107_4
                  try clear hfz77_0
                  try clear hfz77_1
                  try clear hfz98_0
                  try clear hfz98_1
                  try clear hx324_0
                  try clear hx325_0
                  try clear hx326_0
                  try clear hx327_0
                  try clear p2
                  try clear p3
                  try clear p32
                  try clear p324
                  try clear p325
                  try clear p326
                  try clear p327
                  try clear p6
                  try clear p64
                  try clear q3
                  try clear q32
                  try clear q324
                  try clear q325
                  try clear q326
                  try clear q327
                  obtain ⟨x20_7, x343000_7, x343001_7, x343002_7, x343003_7, x343004_7, rfl, HA, HK7, HO_342000, HO_342001, BK314, BK315, BK316, BK341, BK342, HB⟩ := hrel
                  cases gk with
                  | zero => exact absurd HA.out (by simp [carouselref5_BackIn.l3])
                  | succ k7 =>
                   have H := HA.out
                   clear HA
                   simp only [carouselref5_BackIn.l3] at H
                   by_cases c112 : x20_7 < (rd l0_0 0)
                   rotate_left
                   ·rw [if_neg c112] at H
                    have c112b0 : decide (x20_7 < (rd l0_0 0)) = false := decide_eq_false c112
                    clear c112
                    have H' := Aside0.mk H
                    clear H
                    go_wp2
                    go_roundg k7
                    case measure => have := HJ4.out; have := HJ58.out; have := HK3.out; have := HK4.out; have := HK5.out; have := HJ108.out; have := HK7.out; omega
                    case rel => exact ⟨(wrap64 (x18_5 + 1)), (x343000_7), (x343001_7), (x343002_7), (x343003_7), (x343004_7), z1_, H', ⟨by have := HJ4.out; have := HJ58.out; have := HK3.out; have := HK4.out; have := HK5.out; have := HJ108.out; have := HK7.out; omega⟩, ⟨zr_ HO_342000.out⟩, ⟨zr_ HO_342001.out⟩, ⟨zb_ BK314⟩, ⟨zb_ BK315⟩, ⟨zb_ BK316⟩, ⟨zb_ BK341⟩, ⟨zb_ BK342⟩, ⟨zw5_ HB GE314 GE315 GE316 GE341 GE342⟩⟩
                   rw [if_pos c112] at H
                   have c112b0 : decide (x20_7 < (rd l0_0 0)) = true := decide_eq_true c112
                   clear c112
                   obtain ⟨ji113, hji113⟩ : ∃ j_ : Int, (wrap64 ((wrap64 (x20_7 * (rd l0_0 1))) + x18_5)) = j_ := ⟨_, rfl⟩
                   replace H : (if 0 ≤ (ji113) then (if (ji113) < (l0_1.length : Int) then (if 0 ≤ (wrap64 ((wrap64 ((wrap64 ((wrap64 (x20_7 * (rd l1_0 1))) + x15_3)) * (rd l1_0 2))) + (wrap64 (x16_4 - (wrap64 (x18_5 * a2)))))) then (if (wrap64 ((wrap64 ((wrap64 ((wrap64 (x20_7 * (rd l1_0 1))) + x15_3)) * (rd l1_0 2))) + (wrap64 (x16_4 - (wrap64 (x18_5 * a2)))))) < (l1_1.length : Int) then ((carouselref1_Times.f (rd l0_1 (ji113)) (rd l1_1 (wrap64 ((wrap64 ((wrap64 ((wrap64 (x20_7 * (rd l1_0 1))) + x15_3)) * (rd l1_0 2))) + (wrap64 (x16_4 - (wrap64 (x18_5 * a2)))))))).bind fun bt352 => ((carouselref1_Plus.f x343000_7 x343001_7 x343002_7 x343003_7 x343004_7 bt352.1 bt352.2.1 bt352.2.2.1 bt352.2.2.2.1 bt352.2.2.2.2).bind fun bt357 => (carouselref5_BackIn.l3 k7 a2 a3 (rd l0_0 0) (rd l0_0 1) (rd l1_0 1) (rd l1_0 2) x15_3 x16_4 x18_5 (wrap64 (x16_4 - (wrap64 (x18_5 * a2)))) (wrap64 (x20_7 + 1)) l0_0 l0_1 l1_0 l1_1 t335 x342001_4 bt357.1 bt357.2.1 bt357.2.2.1 bt357.2.2.2.1 bt357.2.2.2.2))) else (none)) else (none)) else (none)) else (none)) = some (r1, r2, r3) := by first | (rw [hji113] at H; exact H) | (simp only [hji113] at H ⊢; exact H)
                   have hji113w : (IntKind.i64.wrap ((wrap64 (x20_7 * (rd l0_0 1))) + x18_5)) = ji113 := (i64_w _).trans hji113
                   by_cases c114 : 0 ≤ (ji113)
                   rotate_left
                   ·rw [if_neg c114] at H
                    exact absurd H (by simp)
                   rw [if_pos c114] at H
                   have c114b0 : decide (0 ≤ (ji113)) = true := decide_eq_true c114
                   clear c114
                   by_cases c115 : (ji113) < (l0_1.length : Int)
                   rotate_left
                   ·rw [if_neg c115] at H
                    exact absurd H (by simp)
                   rw [if_pos c115] at H
                   have c115b0 : decide ((ji113) < (l0_1.length : Int)) = true := decide_eq_true c115
                   clear c115
                   obtain ⟨ji116, hji116⟩ : ∃ j_ : Int, (wrap64 ((wrap64 ((wrap64 ((wrap64 (x20_7 * (rd l1_0 1))) + x15_3)) * (rd l1_0 2))) + (wrap64 (x16_4 - (wrap64 (x18_5 * a2)))))) = j_ := ⟨_, rfl⟩
                   replace H : (if 0 ≤ (ji116) then (if (ji116) < (l1_1.length : Int) then ((carouselref1_Times.f (rd l0_1 (ji113)) (rd l1_1 (ji116))).bind fun bt352 => ((carouselref1_Plus.f x343000_7 x343001_7 x343002_7 x343003_7 x343004_7 bt352.1 bt352.2.1 bt352.2.2.1 bt352.2.2.2.1 bt352.2.2.2.2).bind fun bt357 => (carouselref5_BackIn.l3 k7 a2 a3 (rd l0_0 0) (rd l0_0 1) (rd l1_0 1) (rd l1_0 2) x15_3 x16_4 x18_5 (wrap64 (x16_4 - (wrap64 (x18_5 * a2)))) (wrap64 (x20_7 + 1)) l0_0 l0_1 l1_0 l1_1 t335 x342001_4 bt357.1 bt357.2.1 bt357.2.2.1 bt357.2.2.2.1 bt357.2.2.2.2))) else (none)) else (none)) = some (r1, r2, r3) := by first | (rw [hji116] at H; exact H) | (simp only [hji116] at H ⊢; exact H)
                   have hji116w : (IntKind.i64.wrap ((wrap64 ((wrap64 ((wrap64 (x20_7 * (rd l1_0 1))) + x15_3)) * (rd l1_0 2))) + (wrap64 (x16_4 - (wrap64 (x18_5 * a2)))))) = ji116 := (i64_w _).trans hji116
                   by_cases c117 : 0 ≤ (ji116)
                   rotate_left
                   ·rw [if_neg c117] at H
                    exact absurd H (by simp)
                   rw [if_pos c117] at H
                   have c117b0 : decide (0 ≤ (ji116)) = true := decide_eq_true c117
                   clear c117
                   by_cases c118 : (ji116) < (l1_1.length : Int)
                   rotate_left
                   ·rw [if_neg c118] at H
                    exact absurd H (by simp)
                   rw [if_pos c118] at H
                   have c118b0 : decide ((ji116) < (l1_1.length : Int)) = true := decide_eq_true c118
                   clear c118
                   replace H := Option.bind_eq_some_iff.mp H
                   obtain ⟨⟨t352, t353, t354, t355, t356⟩, A1190, H⟩ := H
                   (try dsimp only at H)
                   have A119 := Aside0.mk A1190
                   clear A1190
                   replace H := Option.bind_eq_some_iff.mp H
                   obtain ⟨⟨t357, t358, t359, t360, t361⟩, A1200, H⟩ := H
                   (try dsimp only at H)
                   have A120 := Aside0.mk A1200
                   clear A1200
                   have H' := Aside0.mk H
                   clear H
                   try go_wp2
                   replace HO_342000 := Aside0.mk (Kd.R_drew HO_342000.out)
                   replace HO_342001 := Aside0.mk (Kd.R_drew HO_342001.out)
                   replace BK314 := Aside0.mk (blk_drew BK314.out)
                   replace BK315 := Aside0.mk (blk_drew BK315.out)
                   replace BK316 := Aside0.mk (blk_drew BK316.out)
                   replace BK341 := Aside0.mk (blk_drew BK341.out)
                   replace BK342 := Aside0.mk (blk_drew BK342.out)
                   replace HB := Aside0.mk (below_drew1 HB.out)
                   have p350 : 0 ≤ ((ji113) : Int) := of_decide_eq_true (by first | (with_reducible assumption) | assumption)
                   have q350 : (ji113) < (l0_1.length : Int) := of_decide_eq_true (by first | (with_reducible assumption) | assumption)
                   obtain ⟨ad350, e350, hx350_0⟩ := Kd.at_int HR0_1.out (ji113) p350 q350
                   have hw350_0 := hx350_0
                   cases e350
                   replace hx350_0 := (HB.out.cell (World.block_lt_of_cell? w _ hx350_0)).trans hx350_0
                   replace p350 := eq_true p350
                   replace q350 := eq_true q350
                   have p351 : 0 ≤ ((ji116) : Int) := of_decide_eq_true (by first | (with_reducible assumption) | assumption)
                   have q351 : (ji116) < (l1_1.length : Int) := of_decide_eq_true (by first | (with_reducible assumption) | assumption)
                   obtain ⟨ad351, e351, hx351_0⟩ := Kd.at_int HR1_1.out (ji116) p351 q351
                   have hw351_0 := hx351_0
                   cases e351
                   replace hx351_0 := (HB.out.cell (World.block_lt_of_cell? w _ hx351_0)).trans hx351_0
                   replace p351 := eq_true p351
                   replace q351 := eq_true q351
                   refine start_ (n := 26) (S := fun w' => w'.cell? ⟨gb342, 0, none⟩ = some (.bool x343000_7) ∧ w'.cell? ⟨gb342, 1, none⟩ = some (.int .u64 x343001_7) ∧ w'.cell? ⟨gb342, 2, none⟩ = some (.int .u64 x343002_7) ∧ w'.cell? ⟨gb342, 3, none⟩ = some (.int .u64 x343003_7) ∧ w'.cell? ⟨gb342, 4, none⟩ = some (.int .u64 x343004_7) ∧ w'.cell? ⟨gb314, 0, none⟩ = some (.slice (some ad324) l0_0.length c0_0) ∧ w'.cell? ⟨gb314, 1, none⟩ = some (.slice (some ad350) l0_1.length c0_1) ∧ w'.cell? ⟨gb315, 0, none⟩ = some (.slice (some ad326) l1_0.length c1_0) ∧ w'.cell? ⟨gb315, 1, none⟩ = some (.slice (some ad351) l1_1.length c1_1) ∧ w'.cell? (ad350.add ((ji113)).toNat) = some (.int .i64 (rd l0_1 (ji113))) ∧ w'.cell? (ad351.add ((ji116)).toNat) = some (.int .i64 (rd l1_1 (ji116)))) (ds := [25]) #[false, false, false, false, false, false, false, false, false, false, false, false, false, false, false, false, false, false, false, false, false, false, false, false, false, false] (by kernel_rfl) rfl rfl ⟨(blk_cell BK342.out 0).trans rfl, (blk_cell BK342.out 1).trans rfl, (blk_cell BK342.out 2).trans rfl, (blk_cell BK342.out 3).trans rfl, (blk_cell BK342.out 4).trans rfl, (blk_cell BK314.out 0).trans rfl, (blk_cell BK314.out 1).trans rfl, (blk_cell BK315.out 0).trans rfl, (blk_cell BK315.out 1).trans rfl, ((HB.out.cell (World.block_lt_of_cell? w _ hw350_0)).trans hw350_0), ((HB.out.cell (World.block_lt_of_cell? w _ hw351_0)).trans hw351_0)⟩ (fun hHeld => ?_); refine with_tabW carouselref5_BackIn.tab24 carouselref5_BackIn.bits24 (fun HT_ HW_ => ?_)
                   generalize wr.drew = w121 at HO_342000 HO_342001 BK314 BK315 BK316 BK341 BK342 HB hx350_0 hx351_0 hHeld ⊢
                   refine yp_ ?_ 1 152
                   refine yp_ ?_ 3 154
                   refine yp_ ?_ 4 155
                   refine yp_ ?_ 5 156
                   refine yp_ ?_ 6 157
                   refine yp_ ?_ 7 158
                   refine yp_ ?_ 10 161
                   refine yp_ ?_ 12 163
                   refine yp_ ?_ 13 164
                   refine yp_ ?_ 14 165
                   refine yp_ ?_ 15 166
                   refine yp_ ?_ 16 167
                   refine yp_ ?_ 17 168
                   refine yp_ ?_ 18 169
                   refine yp_ ?_ 19 170
                   refine yp_ ?_ 20 171
                   refine yt11_ ?_ 0 151
                   refine yt11_ ?_ 2 153
                   refine yp_ ?_ 8 159
                   refine yt11_ ?_ 9 160
                   refine yt11_ ?_ 11 162
                   refine yp_ ?_ 21 172
                   refine yt11_ ?_ 22 173
                   refine yo_ 23 (some 174) (fun K hK => ?_)
                   refine goes_ Try.func36 (by kernel_rfl) rfl #[.int .i64 (rd l0_1 (ji113)), .int .i64 (rd l1_1 (ji116))] (by rfl) rfl rfl (by (try simp only [List.map_toArray, List.map_cons, List.map_nil]); first | done | (simp only [hji113, hji116]; rfl) | rfl | (simp only [List.length_drop, List.length_take]; rfl)) ?_
                   with_reducible refine (carouselref1_Times.calls (rd l0_1 (ji113)) (rd l1_1 (ji116)) t352 t353 t354 t355 t356 _ A119.out).mono ?_
                   rintro e w122 ⟨rfl, hb⟩
                   refine ⟨_, rfl, ?_⟩
                   replace HO_342000 := zy_ HO_342000 hb
                   replace HO_342001 := zy_ HO_342001 hb
                   replace BK314 := za_ BK314 hb
                   replace BK315 := za_ BK315 hb
                   replace BK316 := za_ BK316 hb
                   replace BK341 := za_ BK341 hb
                   replace BK342 := za_ BK342 hb
                   replace HB := Aside0.mk (below_step (zw5_ HB GE314 GE315 GE316 GE341 GE342) hb)
                   (try clear hb)
                   (try clear hb2)
                   (try clear hk)
                   (try clear hi)
                   refine hK.out _ _ ⟨(blk_cell BK342.out 0).trans rfl, (blk_cell BK342.out 1).trans rfl, (blk_cell BK342.out 2).trans rfl, (blk_cell BK342.out 3).trans rfl, (blk_cell BK342.out 4).trans rfl, (blk_cell BK314.out 0).trans rfl, (blk_cell BK314.out 1).trans rfl, (blk_cell BK315.out 0).trans rfl, (blk_cell BK315.out 1).trans rfl, ((HB.out.cell (World.block_lt_of_cell? w _ hw350_0)).trans hw350_0), ((HB.out.cell (World.block_lt_of_cell? w _ hw351_0)).trans hw351_0)⟩ (fun hHeld => ?_)
                   clear hK K
                   refine zq_ (some 174) (h := ?_)
                   refine yo_ 24 (some 175) (fun K hK => ?_)
                   refine yg_ Try.func35 #[.agg #[.bool x343000_7, .int .u64 x343001_7, .int .u64 x343002_7, .int .u64 x343003_7, .int .u64 x343004_7], .agg #[.bool t352, .int .u64 t353, .int .u64 t354, .int .u64 t355, .int .u64 t356]] ?_
                   with_reducible refine (carouselref1_Plus.calls x343000_7 x343001_7 x343002_7 x343003_7 x343004_7 t352 t353 t354 t355 t356 t357 t358 t359 t360 t361 _ A120.out).mono ?_
                   rintro e w123 ⟨rfl, hb⟩
                   refine ⟨_, rfl, ?_⟩
                   replace HO_342000 := zy_ HO_342000 hb
                   replace HO_342001 := zy_ HO_342001 hb
                   replace BK314 := za_ BK314 hb
                   replace BK315 := za_ BK315 hb
                   replace BK316 := za_ BK316 hb
                   replace BK341 := za_ BK341 hb
                   replace BK342 := za_ BK342 hb
                   replace HB := Aside0.mk (below_step (zw5_ HB GE314 GE315 GE316 GE341 GE342) hb)
                   (try clear hb)
                   (try clear hb2)
                   (try clear hk)
                   (try clear hi)
                   refine hK.out _ _ ⟨(blk_cell BK342.out 0).trans rfl, (blk_cell BK342.out 1).trans rfl, (blk_cell BK342.out 2).trans rfl, (blk_cell BK342.out 3).trans rfl, (blk_cell BK342.out 4).trans rfl, (blk_cell BK314.out 0).trans rfl, (blk_cell BK314.out 1).trans rfl, (blk_cell BK315.out 0).trans rfl, (blk_cell BK315.out 1).trans rfl, ((HB.out.cell (World.block_lt_of_cell? w _ hw350_0)).trans hw350_0), ((HB.out.cell (World.block_lt_of_cell? w _ hw351_0)).trans hw351_0)⟩ (fun hHeld => ?_)
                   clear hK K
                   refine zq_ (some 175) (h := ?_)
                   refine yl_ 25 none (fun K hK => ?_)
                   have hs124 := zx_ (v := .bool x343000_7) BK342 0
                   have hfs124 := blk_frozen BK342.out 0
                   have hns124_0 := NB314_342.out
                   have hns124_1 := NB315_342.out
                   have hns124_2 := NB316_342.out
                   have hns124_3 := NB341_342.out
                   have hms124_0 := NB342_314.out
                   have hms124_1 := NB342_315.out
                   have hms124_2 := NB342_316.out
                   have hms124_3 := NB342_341.out
                   have hs125 := zx_ (v := .int .u64 x343001_7) BK342 1
                   have hfs125 := blk_frozen BK342.out 1
                   have hns125_0 := NB314_342.out
                   have hns125_1 := NB315_342.out
                   have hns125_2 := NB316_342.out
                   have hns125_3 := NB341_342.out
                   have hms125_0 := NB342_314.out
                   have hms125_1 := NB342_315.out
                   have hms125_2 := NB342_316.out
                   have hms125_3 := NB342_341.out
                   have hs126 := zx_ (v := .int .u64 x343002_7) BK342 2
                   have hfs126 := blk_frozen BK342.out 2
                   have hns126_0 := NB314_342.out
                   have hns126_1 := NB315_342.out
                   have hns126_2 := NB316_342.out
                   have hns126_3 := NB341_342.out
                   have hms126_0 := NB342_314.out
                   have hms126_1 := NB342_315.out
                   have hms126_2 := NB342_316.out
                   have hms126_3 := NB342_341.out
                   have hs127 := zx_ (v := .int .u64 x343003_7) BK342 3
                   have hfs127 := blk_frozen BK342.out 3
                   have hns127_0 := NB314_342.out
                   have hns127_1 := NB315_342.out
                   have hns127_2 := NB316_342.out
                   have hns127_3 := NB341_342.out
                   have hms127_0 := NB342_314.out
                   have hms127_1 := NB342_315.out
                   have hms127_2 := NB342_316.out
                   have hms127_3 := NB342_341.out
                   have hs128 := zx_ (v := .int .u64 x343004_7) BK342 4
                   have hfs128 := blk_frozen BK342.out 4
                   have hns128_0 := NB314_342.out
                   have hns128_1 := NB315_342.out
                   have hns128_2 := NB316_342.out
                   have hns128_3 := NB341_342.out
                   have hms128_0 := NB342_314.out
                   have hms128_1 := NB342_315.out
                   have hms128_2 := NB342_316.out
                   have hms128_3 := NB342_341.out
                   refine skip_ (w1 := ?_) (by rfl) rfl ?_ ?_
                   rotate_left
                   ·go_simp
                    rfl
                   refine hK.out _ _ ?_
                   clear hK K
                   refine done_ (done_of HT_.out (by kernel_rfl)) ?_
                   try go_wp2
                   go_roundg k7
                   case measure => have := HJ4.out; have := HJ58.out; have := HK3.out; have := HK4.out; have := HK5.out; have := HJ108.out; have := HK7.out; omega
                   case rel => exact ⟨(wrap64 (x20_7 + 1)), (t357), (t358), (t359), (t360), (t361), z1_, H', ⟨by have := HJ4.out; have := HJ58.out; have := HK3.out; have := HK4.out; have := HK5.out; have := HJ108.out; have := HK7.out; omega⟩, ⟨zr_ (Kd.R_mono (Kd.R_far (p := ⟨gb342, 4, none⟩) (Kd.R_far (p := ⟨gb342, 3, none⟩) (Kd.R_far (p := ⟨gb342, 2, none⟩) (Kd.R_far (p := ⟨gb342, 1, none⟩) (Kd.R_far (p := ⟨gb342, 0, none⟩) (Kd.R_types HO_342000.out BK342.out (by decide)) (fun _ hk => hk.2) (.bool t357)) (fun _ hk => hk.2) (.int .u64 t358)) (fun _ hk => hk.2) (.int .u64 t359)) (fun _ hk => hk.2) (.int .u64 t360)) (fun _ hk => hk.2) (.int .u64 t361)) (fun _ hk => trivial))⟩, ⟨zr_ (Kd.R_mono (Kd.R_far (p := ⟨gb342, 4, none⟩) (Kd.R_far (p := ⟨gb342, 3, none⟩) (Kd.R_far (p := ⟨gb342, 2, none⟩) (Kd.R_far (p := ⟨gb342, 1, none⟩) (Kd.R_far (p := ⟨gb342, 0, none⟩) (Kd.R_types HO_342001.out BK342.out (by decide)) (fun _ hk => hk.2) (.bool t357)) (fun _ hk => hk.2) (.int .u64 t358)) (fun _ hk => hk.2) (.int .u64 t359)) (fun _ hk => hk.2) (.int .u64 t360)) (fun _ hk => hk.2) (.int .u64 t361)) (fun _ hk => trivial))⟩, ⟨zv1_ BK314 NB314_342⟩, ⟨zv1_ BK315 NB315_342⟩, ⟨zv1_ BK316 NB316_342⟩, ⟨zv1_ BK341 NB341_342⟩, ⟨zo5_ BK342⟩, ⟨zw5_ HB GE314 GE315 GE316 GE341 GE342⟩⟩
    
end Go.Proofs.Ytcipfhlcgnomaaa.PConvBacks
