/- The functions that the law ConvBacks reaches, as Lean functions, and that each call of the Go function does what its Lean function says, wherever that one answers. Written by a program of mine over the print of the kit; Lean checks it. -/
import Derived.Test.YtcipfhlcgnomaaaPConvBacksx0
import Derived.Test.YtcipfhlcgnomaaaPConvBacksx9
import Derived.Test.YtcipfhlcgnomaaaPConvBacksx10
import Derived.Test.YtcipfhlcgnomaaaPConvBacksx11
namespace Go.Proofs.Ytcipfhlcgnomaaa.PConvBacks
open Go.RowKit Go.Proofs.YtcipfhlcgnomaaaW.PrintWords Go.Proofs.YtcipfhlcgnomaaaW.PrintLast Go.Proofs.YtcipfhlcgnomaaaW.PrintMore
attribute [local go_sem] max2_int min2_int max_two min_two max_three min_three max_four min_four   -- for this text's walks alone
set_option linter.unusedVariables false
set_option linter.unusedSimpArgs false

/-! ### carouselref5_BackKernel: function 25 -/
mutual
def carouselref5_BackKernel.j0 : Nat → Int → Int → Bool → List Int → List Int → List Int → List Int → Option (List Int × List Int × Int)
 | 0, _, _, _, _, _, _, _ => none
 | k + 1, x2, x3, x43, x396000, x396001, x397000, x397001 => if x43 = true then (some (([] : List Int), ([] : List Int), 1)) else (if (x396000.length : Int) = 2 then (if (x397000.length : Int) = 2 then (if 1 < (x397000.length : Int) then (if x3 > (rd x397000 1) then (carouselref5_BackKernel.j1 k x2 x3 true x396000 x396001 x397000 x397001) else (if 1 < (x396000.length : Int) then (if x2 = 0 then (none) else (carouselref5_BackKernel.j1 k x2 x3 ((rd x396000 1) != (wrap64 ((wrap64 (Int.tdiv (wrap64 ((rd x397000 1) - x3)) x2)) + 1))) x396000 x396001 x397000 x397001)) else (none))) else (none)) else (carouselref5_BackKernel.j1 k x2 x3 true x396000 x396001 x397000 x397001)) else (carouselref5_BackKernel.j1 k x2 x3 true x396000 x396001 x397000 x397001))
def carouselref5_BackKernel.j1 : Nat → Int → Int → Bool → List Int → List Int → List Int → List Int → Option (List Int × List Int × Int)
 | 0, _, _, _, _, _, _, _ => none
 | k + 1, x2, x3, x78, x396000, x396001, x397000, x397001 => if x78 = true then (some (([] : List Int), ([] : List Int), 4)) else (if 0 < (x396000.length : Int) then (if 1 < (x396000.length : Int) then (if 0 < (x397000.length : Int) then (if 1 < (x397000.length : Int) then ((carouselref5_Good.f k (([rd x396000 0, rd x397000 0, x3] : List Int))).bind fun t410 => (if t410 = true then ((carouselref5_New.f k (([rd x396000 0, rd x397000 0, x3] : List Int)) 0).bind fun bt414 => (carouselref5_BackKernel.l0 k x2 x3 (rd x396000 0) (rd x396000 1) (rd x397000 0) (rd x397000 1) 0 x396000 x396001 x397000 x397001 bt414.1 bt414.2)) else (some (([] : List Int), ([] : List Int), 2)))) else (none)) else (none)) else (none)) else (none))
def carouselref5_BackKernel.l0 : Nat → Int → Int → Int → Int → Int → Int → Int → List Int → List Int → List Int → List Int → List Int → List Int → Option (List Int × List Int × Int)
 | 0, _, _, _, _, _, _, _, _, _, _, _, _, _ => none
 | k + 1, x2, x3, x10, x11, x12, x13, x15, x396000, x396001, x397000, x397001, x421000, x421001 => if x15 < x10 then (carouselref5_BackKernel.l1 k x2 x3 x10 x11 x12 x13 x15 0 x396000 x396001 x397000 x397001 x421000 x421001) else (some (x421000, x421001, 0))
def carouselref5_BackKernel.l1 : Nat → Int → Int → Int → Int → Int → Int → Int → Int → List Int → List Int → List Int → List Int → List Int → List Int → Option (List Int × List Int × Int)
 | 0, _, _, _, _, _, _, _, _, _, _, _, _, _, _ => none
 | k + 1, x2, x3, x10, x11, x12, x13, x15, x16, x396000, x396001, x397000, x397001, x421000, x421001 => if x16 < x12 then (carouselref5_BackKernel.l2 k x2 x3 x10 x11 x12 x13 x15 x16 0 x396000 x396001 x397000 x397001 x421000 x421001) else (carouselref5_BackKernel.l0 k x2 x3 x10 x11 x12 x13 (wrap64 (x15 + 1)) x396000 x396001 x397000 x397001 x421000 x421001)
def carouselref5_BackKernel.l2 : Nat → Int → Int → Int → Int → Int → Int → Int → Int → Int → List Int → List Int → List Int → List Int → List Int → List Int → Option (List Int × List Int × Int)
 | 0, _, _, _, _, _, _, _, _, _, _, _, _, _, _, _ => none
 | k + 1, x2, x3, x10, x11, x12, x13, x15, x16, x17, x396000, x396001, x397000, x397001, x421000, x421001 => if x17 < x3 then (carouselref5_BackKernel.l3 k x2 x3 x10 x11 x12 x13 x15 x16 x17 0 x396000 x396001 x397000 x397001 x421000 x421001 false 0 0 0 0) else (carouselref5_BackKernel.l1 k x2 x3 x10 x11 x12 x13 x15 (wrap64 (x16 + 1)) x396000 x396001 x397000 x397001 x421000 x421001)
def carouselref5_BackKernel.l3 : Nat → Int → Int → Int → Int → Int → Int → Int → Int → Int → Int → List Int → List Int → List Int → List Int → List Int → List Int → Bool → Int → Int → Int → Int → Option (List Int × List Int × Int)
 | 0, _, _, _, _, _, _, _, _, _, _, _, _, _, _, _, _, _, _, _, _, _ => none
 | k + 1, x2, x3, x10, x11, x12, x13, x15, x16, x17, x19, x396000, x396001, x397000, x397001, x421000, x421001, x422000, x422001, x422002, x422003, x422004 => if x19 < x11 then (if 0 ≤ (wrap64 ((wrap64 (x15 * x11)) + x19)) then (if (wrap64 ((wrap64 (x15 * x11)) + x19)) < (x396001.length : Int) then (if 0 ≤ (wrap64 ((wrap64 ((wrap64 (x16 * x13)) + (wrap64 (x19 * x2)))) + x17)) then (if (wrap64 ((wrap64 ((wrap64 (x16 * x13)) + (wrap64 (x19 * x2)))) + x17)) < (x397001.length : Int) then ((carouselref1_Times.f (rd x396001 (wrap64 ((wrap64 (x15 * x11)) + x19))) (rd x397001 (wrap64 ((wrap64 ((wrap64 (x16 * x13)) + (wrap64 (x19 * x2)))) + x17)))).bind fun bt424 => ((carouselref1_Plus.f x422000 x422001 x422002 x422003 x422004 bt424.1 bt424.2.1 bt424.2.2.1 bt424.2.2.2.1 bt424.2.2.2.2).bind fun bt429 => (carouselref5_BackKernel.l3 k x2 x3 x10 x11 x12 x13 x15 x16 x17 (wrap64 (x19 + 1)) x396000 x396001 x397000 x397001 x421000 x421001 bt429.1 bt429.2.1 bt429.2.2.1 bt429.2.2.2.1 bt429.2.2.2.2))) else (none)) else (none)) else (none)) else (none)) else ((carouselref1_Halved.f x422000 x422001 x422002 x422003 x422004 32).bind fun bt434 => ((carouselref1_Held.f k bt434.1 bt434.2.1 bt434.2.2.1 bt434.2.2.2.1 bt434.2.2.2.2).bind fun t439 => (if 0 ≤ (wrap64 ((wrap64 ((wrap64 ((wrap64 (x15 * x12)) + x16)) * x3)) + x17)) then (if (wrap64 ((wrap64 ((wrap64 ((wrap64 (x15 * x12)) + x16)) * x3)) + x17)) < (x421001.length : Int) then (carouselref5_BackKernel.l2 k x2 x3 x10 x11 x12 x13 x15 x16 (wrap64 (x17 + 1)) x396000 x396001 x397000 x397001 x421000 (x421001.set ((wrap64 ((wrap64 ((wrap64 ((wrap64 (x15 * x12)) + x16)) * x3)) + x17)) : Int).toNat t439)) else (none)) else (none))))
end
def carouselref5_BackKernel.f (k : Nat) (l0_0 : List Int) (l0_1 : List Int) (l1_0 : List Int) (l1_1 : List Int) (a2 : Int) (a3 : Int) : Option (List Int × List Int × Int) := (carouselref5_Is.f k l0_0 l0_1).bind fun t398 => (if t398 = true then ((carouselref5_Is.f k l1_0 l1_1).bind fun t399 => (if t399 = true then (if a2 < 1 then (carouselref5_BackKernel.j0 k a2 a3 true l0_0 l0_1 l1_0 l1_1) else (if a2 > 64 then (carouselref5_BackKernel.j0 k a2 a3 true l0_0 l0_1 l1_0 l1_1) else (if a3 < 1 then (carouselref5_BackKernel.j0 k a2 a3 true l0_0 l0_1 l1_0 l1_1) else (carouselref5_BackKernel.j0 k a2 a3 (decide (a3 > 4096)) l0_0 l0_1 l1_0 l1_1)))) else (carouselref5_BackKernel.j0 k a2 a3 true l0_0 l0_1 l1_0 l1_1))) else (carouselref5_BackKernel.j0 k a2 a3 true l0_0 l0_1 l1_0 l1_1))
theorem carouselref5_BackKernel.mono_l : ∀ k, (∀ y0 y1 y2 y3 y4 y5 y6, LeO (carouselref5_BackKernel.j0 k y0 y1 y2 y3 y4 y5 y6) (carouselref5_BackKernel.j0 (k + 1) y0 y1 y2 y3 y4 y5 y6)) ∧ (∀ y0 y1 y2 y3 y4 y5 y6, LeO (carouselref5_BackKernel.j1 k y0 y1 y2 y3 y4 y5 y6) (carouselref5_BackKernel.j1 (k + 1) y0 y1 y2 y3 y4 y5 y6)) ∧ (∀ y0 y1 y2 y3 y4 y5 y6 y7 y8 y9 y10 y11 y12, LeO (carouselref5_BackKernel.l0 k y0 y1 y2 y3 y4 y5 y6 y7 y8 y9 y10 y11 y12) (carouselref5_BackKernel.l0 (k + 1) y0 y1 y2 y3 y4 y5 y6 y7 y8 y9 y10 y11 y12)) ∧ (∀ y0 y1 y2 y3 y4 y5 y6 y7 y8 y9 y10 y11 y12 y13, LeO (carouselref5_BackKernel.l1 k y0 y1 y2 y3 y4 y5 y6 y7 y8 y9 y10 y11 y12 y13) (carouselref5_BackKernel.l1 (k + 1) y0 y1 y2 y3 y4 y5 y6 y7 y8 y9 y10 y11 y12 y13)) ∧ (∀ y0 y1 y2 y3 y4 y5 y6 y7 y8 y9 y10 y11 y12 y13 y14, LeO (carouselref5_BackKernel.l2 k y0 y1 y2 y3 y4 y5 y6 y7 y8 y9 y10 y11 y12 y13 y14) (carouselref5_BackKernel.l2 (k + 1) y0 y1 y2 y3 y4 y5 y6 y7 y8 y9 y10 y11 y12 y13 y14)) ∧ (∀ y0 y1 y2 y3 y4 y5 y6 y7 y8 y9 y10 y11 y12 y13 y14 y15 y16 y17 y18 y19 y20, LeO (carouselref5_BackKernel.l3 k y0 y1 y2 y3 y4 y5 y6 y7 y8 y9 y10 y11 y12 y13 y14 y15 y16 y17 y18 y19 y20) (carouselref5_BackKernel.l3 (k + 1) y0 y1 y2 y3 y4 y5 y6 y7 y8 y9 y10 y11 y12 y13 y14 y15 y16 y17 y18 y19 y20))
 | 0 => ⟨fun _ _ _ _ _ _ _ r h => by simp [carouselref5_BackKernel.j0] at h, fun _ _ _ _ _ _ _ r h => by simp [carouselref5_BackKernel.j1] at h, fun _ _ _ _ _ _ _ _ _ _ _ _ _ r h => by simp [carouselref5_BackKernel.l0] at h, fun _ _ _ _ _ _ _ _ _ _ _ _ _ _ r h => by simp [carouselref5_BackKernel.l1] at h, fun _ _ _ _ _ _ _ _ _ _ _ _ _ _ _ r h => by simp [carouselref5_BackKernel.l2] at h, fun _ _ _ _ _ _ _ _ _ _ _ _ _ _ _ _ _ _ _ _ _ r h => by simp [carouselref5_BackKernel.l3] at h⟩
 | k + 1 => by
  obtain ⟨ih0, ih1, ih2, ih3, ih4, ih5⟩ := carouselref5_BackKernel.mono_l k
  refine ⟨?_, ?_, ?_, ?_, ?_, ?_⟩
  ·intro y0 y1 y2 y3 y4 y5 y6
   unfold carouselref5_BackKernel.j0
   repeat' first
   | (with_reducible exact ih0 _ _ _ _ _ _ _)
   | (with_reducible exact ih1 _ _ _ _ _ _ _)
   | (with_reducible exact ih2 _ _ _ _ _ _ _ _ _ _ _ _ _)
   | (with_reducible exact ih3 _ _ _ _ _ _ _ _ _ _ _ _ _ _)
   | (with_reducible exact ih4 _ _ _ _ _ _ _ _ _ _ _ _ _ _ _)
   | (with_reducible exact ih5 _ _ _ _ _ _ _ _ _ _ _ _ _ _ _ _ _ _ _ _ _)
   | (with_reducible exact LeO.refl _)
   | (with_reducible exact LeO.none _)
   | (with_reducible refine LeO.ite ?_ ?_)
   | (with_reducible refine LeO.bind ?_ (fun _ => ?_))
   | exact ih0 _ _ _ _ _ _ _
   | exact ih1 _ _ _ _ _ _ _
   | exact ih2 _ _ _ _ _ _ _ _ _ _ _ _ _
   | exact ih3 _ _ _ _ _ _ _ _ _ _ _ _ _ _
   | exact ih4 _ _ _ _ _ _ _ _ _ _ _ _ _ _ _
   | exact ih5 _ _ _ _ _ _ _ _ _ _ _ _ _ _ _ _ _ _ _ _ _
   | exact LeO.none _
   | refine LeO.ite ?_ ?_
   | refine LeO.bind ?_ (fun _ => ?_)
  ·intro y0 y1 y2 y3 y4 y5 y6
   unfold carouselref5_BackKernel.j1
   repeat' first
   | (with_reducible exact ih0 _ _ _ _ _ _ _)
   | (with_reducible exact ih1 _ _ _ _ _ _ _)
   | (with_reducible exact ih2 _ _ _ _ _ _ _ _ _ _ _ _ _)
   | (with_reducible exact ih3 _ _ _ _ _ _ _ _ _ _ _ _ _ _)
   | (with_reducible exact ih4 _ _ _ _ _ _ _ _ _ _ _ _ _ _ _)
   | (with_reducible exact ih5 _ _ _ _ _ _ _ _ _ _ _ _ _ _ _ _ _ _ _ _ _)
   | (with_reducible exact carouselref5_Good.mono _ _)
   | (with_reducible exact carouselref5_New.mono _ _ _)
   | (with_reducible exact LeO.refl _)
   | (with_reducible exact LeO.none _)
   | (with_reducible refine LeO.ite ?_ ?_)
   | (with_reducible refine LeO.bind ?_ (fun _ => ?_))
   | exact ih0 _ _ _ _ _ _ _
   | exact ih1 _ _ _ _ _ _ _
   | exact ih2 _ _ _ _ _ _ _ _ _ _ _ _ _
   | exact ih3 _ _ _ _ _ _ _ _ _ _ _ _ _ _
   | exact ih4 _ _ _ _ _ _ _ _ _ _ _ _ _ _ _
   | exact ih5 _ _ _ _ _ _ _ _ _ _ _ _ _ _ _ _ _ _ _ _ _
   | exact carouselref5_Good.mono _ _
   | exact carouselref5_New.mono _ _ _
   | exact LeO.none _
   | refine LeO.ite ?_ ?_
   | refine LeO.bind ?_ (fun _ => ?_)
  ·intro y0 y1 y2 y3 y4 y5 y6 y7 y8 y9 y10 y11 y12
   unfold carouselref5_BackKernel.l0
   repeat' first
   | (with_reducible exact ih0 _ _ _ _ _ _ _)
   | (with_reducible exact ih1 _ _ _ _ _ _ _)
   | (with_reducible exact ih2 _ _ _ _ _ _ _ _ _ _ _ _ _)
   | (with_reducible exact ih3 _ _ _ _ _ _ _ _ _ _ _ _ _ _)
   | (with_reducible exact ih4 _ _ _ _ _ _ _ _ _ _ _ _ _ _ _)
   | (with_reducible exact ih5 _ _ _ _ _ _ _ _ _ _ _ _ _ _ _ _ _ _ _ _ _)
   | (with_reducible exact LeO.refl _)
   | (with_reducible exact LeO.none _)
   | (with_reducible refine LeO.ite ?_ ?_)
   | (with_reducible refine LeO.bind ?_ (fun _ => ?_))
   | exact ih0 _ _ _ _ _ _ _
   | exact ih1 _ _ _ _ _ _ _
   | exact ih2 _ _ _ _ _ _ _ _ _ _ _ _ _
   | exact ih3 _ _ _ _ _ _ _ _ _ _ _ _ _ _
   | exact ih4 _ _ _ _ _ _ _ _ _ _ _ _ _ _ _
   | exact ih5 _ _ _ _ _ _ _ _ _ _ _ _ _ _ _ _ _ _ _ _ _
   | exact LeO.none _
   | refine LeO.ite ?_ ?_
   | refine LeO.bind ?_ (fun _ => ?_)
  ·intro y0 y1 y2 y3 y4 y5 y6 y7 y8 y9 y10 y11 y12 y13
   unfold carouselref5_BackKernel.l1
   repeat' first
   | (with_reducible exact ih0 _ _ _ _ _ _ _)
   | (with_reducible exact ih1 _ _ _ _ _ _ _)
   | (with_reducible exact ih2 _ _ _ _ _ _ _ _ _ _ _ _ _)
   | (with_reducible exact ih3 _ _ _ _ _ _ _ _ _ _ _ _ _ _)
   | (with_reducible exact ih4 _ _ _ _ _ _ _ _ _ _ _ _ _ _ _)
   | (with_reducible exact ih5 _ _ _ _ _ _ _ _ _ _ _ _ _ _ _ _ _ _ _ _ _)
   | (with_reducible exact LeO.refl _)
   | (with_reducible exact LeO.none _)
   | (with_reducible refine LeO.ite ?_ ?_)
   | (with_reducible refine LeO.bind ?_ (fun _ => ?_))
   | exact ih0 _ _ _ _ _ _ _
   | exact ih1 _ _ _ _ _ _ _
   | exact ih2 _ _ _ _ _ _ _ _ _ _ _ _ _
   | exact ih3 _ _ _ _ _ _ _ _ _ _ _ _ _ _
   | exact ih4 _ _ _ _ _ _ _ _ _ _ _ _ _ _ _
   | exact ih5 _ _ _ _ _ _ _ _ _ _ _ _ _ _ _ _ _ _ _ _ _
   | exact LeO.none _
   | refine LeO.ite ?_ ?_
   | refine LeO.bind ?_ (fun _ => ?_)
  ·intro y0 y1 y2 y3 y4 y5 y6 y7 y8 y9 y10 y11 y12 y13 y14
   unfold carouselref5_BackKernel.l2
   repeat' first
   | (with_reducible exact ih0 _ _ _ _ _ _ _)
   | (with_reducible exact ih1 _ _ _ _ _ _ _)
   | (with_reducible exact ih2 _ _ _ _ _ _ _ _ _ _ _ _ _)
   | (with_reducible exact ih3 _ _ _ _ _ _ _ _ _ _ _ _ _ _)
   | (with_reducible exact ih4 _ _ _ _ _ _ _ _ _ _ _ _ _ _ _)
   | (with_reducible exact ih5 _ _ _ _ _ _ _ _ _ _ _ _ _ _ _ _ _ _ _ _ _)
   | (with_reducible exact LeO.refl _)
   | (with_reducible exact LeO.none _)
   | (with_reducible refine LeO.ite ?_ ?_)
   | (with_reducible refine LeO.bind ?_ (fun _ => ?_))
   | exact ih0 _ _ _ _ _ _ _
   | exact ih1 _ _ _ _ _ _ _
   | exact ih2 _ _ _ _ _ _ _ _ _ _ _ _ _
   | exact ih3 _ _ _ _ _ _ _ _ _ _ _ _ _ _
   | exact ih4 _ _ _ _ _ _ _ _ _ _ _ _ _ _ _
   | exact ih5 _ _ _ _ _ _ _ _ _ _ _ _ _ _ _ _ _ _ _ _ _
   | exact LeO.none _
   | refine LeO.ite ?_ ?_
   | refine LeO.bind ?_ (fun _ => ?_)
  ·intro y0 y1 y2 y3 y4 y5 y6 y7 y8 y9 y10 y11 y12 y13 y14 y15 y16 y17 y18 y19 y20
   unfold carouselref5_BackKernel.l3
   repeat' first
   | (with_reducible exact ih0 _ _ _ _ _ _ _)
   | (with_reducible exact ih1 _ _ _ _ _ _ _)
   | (with_reducible exact ih2 _ _ _ _ _ _ _ _ _ _ _ _ _)
   | (with_reducible exact ih3 _ _ _ _ _ _ _ _ _ _ _ _ _ _)
   | (with_reducible exact ih4 _ _ _ _ _ _ _ _ _ _ _ _ _ _ _)
   | (with_reducible exact ih5 _ _ _ _ _ _ _ _ _ _ _ _ _ _ _ _ _ _ _ _ _)
   | (with_reducible exact carouselref1_Held.mono _ _ _ _ _ _)
   | (with_reducible exact LeO.refl _)
   | (with_reducible exact LeO.none _)
   | (with_reducible refine LeO.ite ?_ ?_)
   | (with_reducible refine LeO.bind ?_ (fun _ => ?_))
   | exact ih0 _ _ _ _ _ _ _
   | exact ih1 _ _ _ _ _ _ _
   | exact ih2 _ _ _ _ _ _ _ _ _ _ _ _ _
   | exact ih3 _ _ _ _ _ _ _ _ _ _ _ _ _ _
   | exact ih4 _ _ _ _ _ _ _ _ _ _ _ _ _ _ _
   | exact ih5 _ _ _ _ _ _ _ _ _ _ _ _ _ _ _ _ _ _ _ _ _
   | exact carouselref1_Held.mono _ _ _ _ _ _
   | exact LeO.none _
   | refine LeO.ite ?_ ?_
   | refine LeO.bind ?_ (fun _ => ?_)
theorem carouselref5_BackKernel.mono : ∀ a0 a1 a2 a3 a4 a5 k, LeO (carouselref5_BackKernel.f k a0 a1 a2 a3 a4 a5) (carouselref5_BackKernel.f (k + 1) a0 a1 a2 a3 a4 a5) := by
 intro a0 a1 a2 a3 a4 a5 k
 obtain ⟨ih0, ih1, ih2, ih3, ih4, ih5⟩ := carouselref5_BackKernel.mono_l k
 unfold carouselref5_BackKernel.f
 repeat' first
   | (with_reducible exact ih0 _ _ _ _ _ _ _)
   | (with_reducible exact ih1 _ _ _ _ _ _ _)
   | (with_reducible exact ih2 _ _ _ _ _ _ _ _ _ _ _ _ _)
   | (with_reducible exact ih3 _ _ _ _ _ _ _ _ _ _ _ _ _ _)
   | (with_reducible exact ih4 _ _ _ _ _ _ _ _ _ _ _ _ _ _ _)
   | (with_reducible exact ih5 _ _ _ _ _ _ _ _ _ _ _ _ _ _ _ _ _ _ _ _ _)
   | (with_reducible exact carouselref5_Is.mono _ _ _)
   | (with_reducible exact LeO.refl _)
   | (with_reducible exact LeO.none _)
   | (with_reducible refine LeO.ite ?_ ?_)
   | (with_reducible refine LeO.bind ?_ (fun _ => ?_))
   | exact ih0 _ _ _ _ _ _ _
   | exact ih1 _ _ _ _ _ _ _
   | exact ih2 _ _ _ _ _ _ _ _ _ _ _ _ _
   | exact ih3 _ _ _ _ _ _ _ _ _ _ _ _ _ _
   | exact ih4 _ _ _ _ _ _ _ _ _ _ _ _ _ _ _
   | exact ih5 _ _ _ _ _ _ _ _ _ _ _ _ _ _ _ _ _ _ _ _ _
   | exact carouselref5_Is.mono _ _ _
   | exact LeO.none _
   | refine LeO.ite ?_ ?_
   | refine LeO.bind ?_ (fun _ => ?_)
def carouselref5_BackKernel.T3 : Bool × List (List Nat × List Nat) := (true, [([], []), ([0], [0]), ([1], [1]), ([2], [2]), ([3], [3]), ([4], [4]), ([5, 4], [4, 5]), ([6, 4], [4, 6]), ([7, 4], [4, 7]), ([4, 8], [4, 8]), ([9, 4], [9]), ([10], [10]), ([10], [10]), ([12, 10], [10, 12]), ([13, 10], [10, 13]), ([14, 10], [10, 14]), ([11, 15, 10], [10, 11, 15]), ([10, 16], [10, 16]), ([17, 10], [17]), ([18], [18]), ([19, 18], [18, 19]), ([20, 18], [18, 20]), ([21, 18], [18, 21]), ([18], [18]), ([23, 18], [18, 23]), ([24, 18], [18, 24]), ([25, 18], [18, 25]), ([18], [18]), ([26, 27, 18], [18, 26, 27]), ([18], [18]), ([28, 29, 18], [18, 28, 29]), ([30, 18], [18, 30]), ([22, 31, 18], [18, 22, 31]), ([18, 32], [18, 32])])
def carouselref5_BackKernel.B3 : List Nat := [0, 1, 3, 7, 15, 31, 63, 127, 255, 511, 1023, 2047, 2047, 6143, 14335, 30719, 65535, 131071, 262143, 524287, 1048575, 2097151, 4194303, 524287, 8912895, 25690111, 59244543, 524287, 260571135, 524287, 1065877503, 2139619327, 4294967295, 8589934591]
theorem carouselref5_BackKernel.tab3 : rtab .any (opsOf Try.f25 3) = carouselref5_BackKernel.T3 := by kernel_rfl
theorem carouselref5_BackKernel.bits3 : waitsOk carouselref5_BackKernel.T3.2 carouselref5_BackKernel.B3 = true := by kernel_rfl
def carouselref5_BackKernel.T5 : Bool × List (List Nat × List Nat) := (true, [([], []), ([0], [0]), ([1], [1]), ([2], [2]), ([], []), ([4], [4]), ([5], [5]), ([6], [6]), ([], []), ([8], [8]), ([9], [9]), ([10], [10]), ([], []), ([12], [12]), ([13], [13]), ([14], [14]), ([3, 0, 1, 2, 3], [3]), ([7, 16, 0, 1, 2, 3, 4, 5, 6, 7, 16], [7]), ([11, 17, 0, 1, 2, 3, 4, 5, 6, 7, 8, 9, 10, 11, 16, 17], [11]), ([15, 18, 0, 1, 2, 3, 4, 5, 6, 7, 8, 9, 10, 11, 12, 13, 14, 15, 16, 17, 18], [15])])
def carouselref5_BackKernel.B5 : List Nat := [0, 1, 3, 7, 0, 16, 48, 112, 0, 256, 768, 1792, 0, 4096, 12288, 28672, 15, 65791, 200703, 524287]
theorem carouselref5_BackKernel.tab5 : rtab .any (opsOf Try.f25 5) = carouselref5_BackKernel.T5 := by kernel_rfl
theorem carouselref5_BackKernel.bits5 : waitsOk carouselref5_BackKernel.T5.2 carouselref5_BackKernel.B5 = true := by kernel_rfl
def carouselref5_BackKernel.T22 : Bool × List (List Nat × List Nat) := (true, [([], []), ([], []), ([1], [1]), ([], []), ([], []), ([3, 4], [3, 4]), ([], []), ([5, 6], [5, 6]), ([2, 7], [2, 7]), ([8], [8]), ([], []), ([10], [10]), ([], []), ([], []), ([12, 13], [12, 13]), ([], []), ([], []), ([15, 16], [15, 16]), ([14, 17], [14, 17]), ([], []), ([18, 19], [18, 19]), ([11, 20], [11, 20]), ([21], [21]), ([9, 22], [9, 22]), ([0, 23, 23], [0, 23]), ([24, 24, 0, 1, 2, 3, 4, 5, 6, 7, 8, 9, 10, 11, 12, 13, 14, 15, 16, 17, 18, 19, 20, 21, 22, 23, 24], [24])])
def carouselref5_BackKernel.B22 : List Nat := [0, 0, 2, 0, 0, 24, 0, 120, 254, 510, 0, 1024, 0, 0, 12288, 0, 0, 98304, 258048, 0, 1044480, 2096128, 4193280, 8388606, 16777215, 33554431]
theorem carouselref5_BackKernel.tab22 : rtab .any (opsOf Try.f25 22) = carouselref5_BackKernel.T22 := by kernel_rfl
theorem carouselref5_BackKernel.bits22 : waitsOk carouselref5_BackKernel.T22.2 carouselref5_BackKernel.B22 = true := by kernel_rfl
def carouselref5_BackKernel.T23 : Bool × List (List Nat × List Nat) := (true, [([], []), ([0], [0]), ([], []), ([], []), ([2, 3], [2, 3]), ([], []), ([4, 5], [4, 5]), ([], []), ([6, 7], [6, 7]), ([], []), ([8, 9], [8, 9]), ([], []), ([11], [11]), ([12, 12], [12]), ([1, 10, 0, 1, 2, 3, 4, 5, 6, 7, 8, 9, 10, 11, 12, 13], [1, 10]), ([14, 13, 13, 0, 1, 2, 3, 4, 5, 6, 7, 8, 9, 10, 11, 12, 13], [13, 14])])
def carouselref5_BackKernel.B23 : List Nat := [0, 1, 0, 0, 12, 0, 60, 0, 252, 0, 1020, 0, 2048, 6144, 16383, 32767]
theorem carouselref5_BackKernel.tab23 : rtab .any (opsOf Try.f25 23) = carouselref5_BackKernel.T23 := by kernel_rfl
theorem carouselref5_BackKernel.bits23 : waitsOk carouselref5_BackKernel.T23.2 carouselref5_BackKernel.B23 = true := by kernel_rfl
set_option maxHeartbeats 8000000 in
set_option maxRecDepth 100000 in
theorem carouselref5_BackKernel.calls (k : Nat) (A0_0 : Option Addr) (c0_0 : Nat) (l0_0 : List Int) (A0_1 : Option Addr) (c0_1 : Nat) (l0_1 : List Int) (A1_0 : Option Addr) (c1_0 : Nat) (l1_0 : List Int) (A1_1 : Option Addr) (c1_1 : Nat) (l1_1 : List Int) (a2 : Int) (a3 : Int) (r1 : List Int) (r2 : List Int) (r3 : Int) (w : World) (hr0_0 : Kd.C (Kd.int .i64) w A0_0 l0_0.length l0_0) (hc0_0 : l0_0.length ≤ c0_0) (hr0_1 : Kd.C (Kd.int .i64) w A0_1 l0_1.length l0_1) (hc0_1 : l0_1.length ≤ c0_1) (hr1_0 : Kd.C (Kd.int .i64) w A1_0 l1_0.length l1_0) (hc1_0 : l1_0.length ≤ c1_0) (hr1_1 : Kd.C (Kd.int .i64) w A1_1 l1_1.length l1_1) (hc1_1 : l1_1.length ≤ c1_1) (h : carouselref5_BackKernel.f k l0_0 l0_1 l1_0 l1_1 a2 a3 = some (r1, r2, r3)) :
  Calls Try.prog 25 #[.agg #[.slice A0_0 l0_0.length c0_0, .slice A0_1 l0_1.length c0_1], .agg #[.slice A1_0 l1_0.length c1_0, .slice A1_1 l1_1.length c1_1], .int .i64 a2, .int .i64 a3] w fun e w' => ∃ v0_ v1_ : Value, e = .returned (.tuple #[.agg #[v0_, v1_], .int .i64 r3]) ∧ Kd.R (Kd.int .i64) 3 w' w.heap.size (fun _ => True) v0_ r1 ∧ Kd.R (Kd.int .i64) 33 w' w.heap.size (fun _ => True) v1_ r2 ∧ Below w.heap.size w w' := by
 have hu25 := Try.underlying25
 have hu61 := Try.underlying61
 have HR0_0 := Aside0.mk hr0_0
 have HC0_0 := Aside0.mk hc0_0
 clear hr0_0 hc0_0
 have HR0_1 := Aside0.mk hr0_1
 have HC0_1 := Aside0.mk hc0_1
 clear hr0_1 hc0_1
 have HR1_0 := Aside0.mk hr1_0
 have HC1_0 := Aside0.mk hc1_0
 clear hr1_0 hc1_0
 have HR1_1 := Aside0.mk hr1_1
 have HC1_1 := Aside0.mk hc1_1
 clear hr1_1 hc1_1
 have HB := Aside0.mk (Below.refl w.heap.size w)
 have H : ((carouselref5_Is.f k l0_0 l0_1).bind fun t398 => (if t398 = true then ((carouselref5_Is.f k l1_0 l1_1).bind fun t399 => (if t399 = true then (if a2 < 1 then (carouselref5_BackKernel.j0 k a2 a3 true l0_0 l0_1 l1_0 l1_1) else (if a2 > 64 then (carouselref5_BackKernel.j0 k a2 a3 true l0_0 l0_1 l1_0 l1_1) else (if a3 < 1 then (carouselref5_BackKernel.j0 k a2 a3 true l0_0 l0_1 l1_0 l1_1) else (carouselref5_BackKernel.j0 k a2 a3 (decide (a3 > 4096)) l0_0 l0_1 l1_0 l1_1)))) else (carouselref5_BackKernel.j0 k a2 a3 true l0_0 l0_1 l1_0 l1_1))) else (carouselref5_BackKernel.j0 k a2 a3 true l0_0 l0_1 l1_0 l1_1))) = some (r1, r2, r3) := h
 clear h
 have HC5 := Aside0.mk H
 clear H
 go_enter Try.func25, Try.ntmps25
 go_upto_region 1 with (first | ((with_reducible refine gate_dst (N := 4) rfl ?_); (try (refine gate_guard (by rfl) ?_; dsimp only)); refine box_event ?hg (N := 4) ?hd (cs := #[.slice A0_0 l0_0.length c0_0, .slice A0_1 l0_1.length c0_1]) (t := 25) ?hr ?_; (case hd => rfl); (case hg => rfl); (case hr => first | (go_simp; done) | (go_simp; rfl)); intro gb395 hg w6 hbox hb; have BK395 := Aside0.mk (hbox); have GW395 := Aside0.mk (zs_ hg (zw0_ HB)); have GE395 := Aside0.mk (zs_ hg (zw0_ HB)); replace HB := Aside0.mk (below_step (zw0_ HB) hb); clear hb hbox hg) | ((with_reducible refine gate_dst (N := 5) rfl ?_); (try (refine gate_guard (by rfl) ?_; dsimp only)); refine box_event ?hg (N := 5) ?hd (cs := #[.slice A1_0 l1_0.length c1_0, .slice A1_1 l1_1.length c1_1]) (t := 25) ?hr ?_; (case hd => rfl); (case hg => rfl); (case hr => first | (go_simp; done) | (go_simp; rfl)); intro gb396 hg w7 hbox hb; have BK396 := Aside0.mk (hbox); have GW396 := Aside0.mk (zs_ hg (zw1_ HB GE395)); have GE396 := Aside0.mk (zs_ hg (zw1_ HB GE395)); replace HB := Aside0.mk (below_step (zw1_ HB GE395) hb); have NB395_396 := Aside0.mk (zn_ hg BK395); have NB396_395 := Aside0.mk (zm_ hg BK395); replace BK395 := za_ BK395 hb; clear hb hbox hg) | ((with_reducible refine gate_dst (N := 8) rfl ?_); (try (refine gate_guard (by rfl) ?_; dsimp only)); refine box_event ?hg (N := 8) ?hd (cs := #[.slice none 0 0, .slice none 0 0]) (t := 25) ?hr ?_; (case hd => rfl); (case hg => rfl); (case hr => first | (go_simp; done) | (go_simp; rfl)); intro gb397 hg w8 hbox hb; have BK397 := Aside0.mk (hbox); have GW397 := Aside0.mk (zs_ hg (zw2_ HB GE395 GE396)); have GE397 := Aside0.mk (zs_ hg (zw2_ HB GE395 GE396)); replace HB := Aside0.mk (below_step (zw2_ HB GE395 GE396) hb); have NB395_397 := Aside0.mk (zn_ hg BK395); have NB397_395 := Aside0.mk (zm_ hg BK395); replace BK395 := za_ BK395 hb; have NB396_397 := Aside0.mk (zn_ hg BK396); have NB397_396 := Aside0.mk (zm_ hg BK396); replace BK396 := za_ BK396 hb; clear hb hbox hg))
 (try simp only [Act.put, List.setIfInBounds_toArray, List.set_cons_zero, List.set_cons_succ])
 go_cut [43] (fun v43 wc => ∃ (kq : Nat) (x43_4 : Bool), v43 = .bool x43_4 ∧ Aside0 (carouselref5_BackKernel.j0 kq a2 a3 x43_4 l0_0 l0_1 l1_0 l1_1 = some (r1, r2, r3)) ∧ Aside0 (kq ≤ k) ∧ Aside0 (wc.heap[gb395]? = some (.cells #[(.slice A0_0 l0_0.length c0_0), (.slice A0_1 l0_1.length c0_1)] 25 (0, 0))) ∧ Aside0 (wc.heap[gb396]? = some (.cells #[(.slice A1_0 l1_0.length c1_0), (.slice A1_1 l1_1.length c1_1)] 25 (0, 0))) ∧ Aside0 (wc.heap[gb397]? = some (.cells #[(.slice none 0 0), (.slice none 0 0)] 25 (0, 0))) ∧ Aside0 (Below w.heap.size w wc))
 case first =>
  have H := HC5.out
  clear HC5
  replace H := Option.bind_eq_some_iff.mp H
  obtain ⟨t398, A90, H⟩ := H
  (try dsimp only at H)
  have A9 := Aside0.mk A90
  clear A90
  by_cases c10 : t398 = true
  rotate_left
  ·replace c10 := Bool.eq_false_iff.mpr c10
   subst c10
   have H1 := H
   rw [if_neg (show ¬ (false = true) by decide)] at H1
   clear H
   have H := H1
   clear H1
   have H' := Aside0.mk H
   clear H
   have hnb51 := NB395_396.out
   have hnc51 := NB396_395.out
   have hnb52 := NB395_397.out
   have hnc52 := NB397_395.out
   have hcz53_0 := zx_ (v := .slice A0_0 l0_0.length c0_0) BK395 0
   have hcz53_1 := zx_ (v := .slice A0_1 l0_1.length c0_1) BK395 1
   have hfz53_0 := blk_frozen BK395.out 0
   have hfz53_1 := blk_frozen BK395.out 1
   go_wp2_with (first | ((with_reducible refine gate_callee (f := 32) rfl ?_); refine zg_ (some 21) Try.func32 #[.agg #[.slice A0_0 l0_0.length c0_0, .slice A0_1 l0_1.length c0_1]] (h := ?_); (with_reducible refine (carouselref5_Is.calls k _ _ l0_0 _ _ l0_1 false _ ?side1 ?side2 ?side3 ?side4 A9.out).mono ?_); (case side1 => exact zk_ (Kd.C_below HR0_0.out HB.out)); (case side2 => exact HC0_0.out); (case side3 => exact zk_ (Kd.C_below HR0_1.out HB.out)); (case side4 => exact HC0_1.out); rintro e w54 ⟨rfl, hb⟩; refine ⟨_, rfl, ?_⟩; replace BK395 := za_ BK395 hb; replace BK396 := za_ BK396 hb; replace BK397 := za_ BK397 hb; replace HB := Aside0.mk (below_step (zw3_ HB GE395 GE396 GE397) hb); (try clear hb)))
   go_meet
   case rel => exact ⟨_, (true), z1_, H', ⟨by first | omega | exact Nat.le_refl _⟩, ⟨zb_ BK395⟩, ⟨zb_ BK396⟩, ⟨zb_ BK397⟩, ⟨zw3_ HB GE395 GE396 GE397⟩⟩
  subst c10
  have H1 := H
  rw [if_pos rfl] at H1
  clear H
  have H := H1
  clear H1
  replace H := Option.bind_eq_some_iff.mp H
  obtain ⟨t399, A110, H⟩ := H
  (try dsimp only at H)
  have A11 := Aside0.mk A110
  clear A110
  by_cases c12 : t399 = true
  rotate_left
  ·replace c12 := Bool.eq_false_iff.mpr c12
   subst c12
   have H1 := H
   rw [if_neg (show ¬ (false = true) by decide)] at H1
   clear H
   have H := H1
   clear H1
   have H' := Aside0.mk H
   clear H
   have hnb44 := NB395_396.out
   have hnc44 := NB396_395.out
   have hnb45 := NB395_397.out
   have hnc45 := NB397_395.out
   have hcz46_0 := zx_ (v := .slice A0_0 l0_0.length c0_0) BK395 0
   have hcz46_1 := zx_ (v := .slice A0_1 l0_1.length c0_1) BK395 1
   have hfz46_0 := blk_frozen BK395.out 0
   have hfz46_1 := blk_frozen BK395.out 1
   go_wp2_with (first | ((with_reducible refine gate_callee (f := 32) rfl ?_); refine zg_ (some 21) Try.func32 #[.agg #[.slice A0_0 l0_0.length c0_0, .slice A0_1 l0_1.length c0_1]] (h := ?_); (with_reducible refine (carouselref5_Is.calls k _ _ l0_0 _ _ l0_1 true _ ?side1 ?side2 ?side3 ?side4 A9.out).mono ?_); (case side1 => exact zk_ (Kd.C_below HR0_0.out HB.out)); (case side2 => exact HC0_0.out); (case side3 => exact zk_ (Kd.C_below HR0_1.out HB.out)); (case side4 => exact HC0_1.out); rintro e w47 ⟨rfl, hb⟩; refine ⟨_, rfl, ?_⟩; replace BK395 := za_ BK395 hb; replace BK396 := za_ BK396 hb; replace BK397 := za_ BK397 hb; replace HB := Aside0.mk (below_step (zw3_ HB GE395 GE396 GE397) hb); (try clear hb); have hnb48 := NB396_397.out; have hnc48 := NB397_396.out; have hcz49_0 := zx_ (v := .slice A1_0 l1_0.length c1_0) BK396 0; have hcz49_1 := zx_ (v := .slice A1_1 l1_1.length c1_1) BK396 1; have hfz49_0 := blk_frozen BK396.out 0; have hfz49_1 := blk_frozen BK396.out 1) | (go_at_call 32; (with_reducible refine (carouselref5_Is.calls k _ _ l1_0 _ _ l1_1 false _ ?side1 ?side2 ?side3 ?side4 A11.out).mono ?_); (case side1 => exact zk_ (Kd.C_below HR1_0.out HB.out)); (case side2 => exact HC1_0.out); (case side3 => exact zk_ (Kd.C_below HR1_1.out HB.out)); (case side4 => exact HC1_1.out); rintro e w50 ⟨rfl, hb⟩; replace BK395 := za_ BK395 hb; replace BK396 := za_ BK396 hb; replace BK397 := za_ BK397 hb; replace HB := Aside0.mk (below_step (zw3_ HB GE395 GE396 GE397) hb); (try clear hb)))
   go_meet
   case rel => exact ⟨_, (true), z1_, H', ⟨by first | omega | exact Nat.le_refl _⟩, ⟨zb_ BK395⟩, ⟨zb_ BK396⟩, ⟨zb_ BK397⟩, ⟨zw3_ HB GE395 GE396 GE397⟩⟩
  subst c12
  have H1 := H
  rw [if_pos rfl] at H1
  clear H
  have H := H1
  clear H1
  by_cases c13 : a2 < 1
  ·rw [if_pos c13] at H
   have c13b0 : decide (a2 < 1) = true := decide_eq_true c13
   clear c13
   (first | rw [c13b0] | (simp only [i64_w, i32_w]; rw [c13b0]) | skip)
   have H' := Aside0.mk H
   clear H
   have hnb14 := NB395_396.out
   have hnc14 := NB396_395.out
   have hnb15 := NB395_397.out
   have hnc15 := NB397_395.out
   have hcz16_0 := zx_ (v := .slice A0_0 l0_0.length c0_0) BK395 0
   have hcz16_1 := zx_ (v := .slice A0_1 l0_1.length c0_1) BK395 1
   have hfz16_0 := blk_frozen BK395.out 0
   have hfz16_1 := blk_frozen BK395.out 1
   go_wp2_with (first | ((with_reducible refine gate_callee (f := 32) rfl ?_); refine zg_ (some 21) Try.func32 #[.agg #[.slice A0_0 l0_0.length c0_0, .slice A0_1 l0_1.length c0_1]] (h := ?_); (with_reducible refine (carouselref5_Is.calls k _ _ l0_0 _ _ l0_1 true _ ?side1 ?side2 ?side3 ?side4 A9.out).mono ?_); (case side1 => exact zk_ (Kd.C_below HR0_0.out HB.out)); (case side2 => exact HC0_0.out); (case side3 => exact zk_ (Kd.C_below HR0_1.out HB.out)); (case side4 => exact HC0_1.out); rintro e w17 ⟨rfl, hb⟩; refine ⟨_, rfl, ?_⟩; replace BK395 := za_ BK395 hb; replace BK396 := za_ BK396 hb; replace BK397 := za_ BK397 hb; replace HB := Aside0.mk (below_step (zw3_ HB GE395 GE396 GE397) hb); (try clear hb); have hnb18 := NB396_397.out; have hnc18 := NB397_396.out; have hcz19_0 := zx_ (v := .slice A1_0 l1_0.length c1_0) BK396 0; have hcz19_1 := zx_ (v := .slice A1_1 l1_1.length c1_1) BK396 1; have hfz19_0 := blk_frozen BK396.out 0; have hfz19_1 := blk_frozen BK396.out 1) | (go_at_call 32; (with_reducible refine (carouselref5_Is.calls k _ _ l1_0 _ _ l1_1 true _ ?side1 ?side2 ?side3 ?side4 A11.out).mono ?_); (case side1 => exact zk_ (Kd.C_below HR1_0.out HB.out)); (case side2 => exact HC1_0.out); (case side3 => exact zk_ (Kd.C_below HR1_1.out HB.out)); (case side4 => exact HC1_1.out); rintro e w20 ⟨rfl, hb⟩; replace BK395 := za_ BK395 hb; replace BK396 := za_ BK396 hb; replace BK397 := za_ BK397 hb; replace HB := Aside0.mk (below_step (zw3_ HB GE395 GE396 GE397) hb); (try clear hb)))
   go_meet
   case rel => exact ⟨_, (true), z1_, H', ⟨by first | omega | exact Nat.le_refl _⟩, ⟨zb_ BK395⟩, ⟨zb_ BK396⟩, ⟨zb_ BK397⟩, ⟨zw3_ HB GE395 GE396 GE397⟩⟩
  rw [if_neg c13] at H
  have c13b0 : decide (a2 < 1) = false := decide_eq_false c13
  clear c13
  (first | rw [c13b0] | (simp only [i64_w, i32_w]; rw [c13b0]) | skip)
  by_cases c21 : a2 > 64
  ·rw [if_pos c21] at H
   have c21b0 : decide (64 < a2) = true := decide_eq_true c21
   clear c21
   have H' := Aside0.mk H
   clear H
   have hnb22 := NB395_396.out
   have hnc22 := NB396_395.out
   have hnb23 := NB395_397.out
   have hnc23 := NB397_395.out
   have hcz24_0 := zx_ (v := .slice A0_0 l0_0.length c0_0) BK395 0
   have hcz24_1 := zx_ (v := .slice A0_1 l0_1.length c0_1) BK395 1
   have hfz24_0 := blk_frozen BK395.out 0
   have hfz24_1 := blk_frozen BK395.out 1
   go_wp2_with (first | ((with_reducible refine gate_callee (f := 32) rfl ?_); refine zg_ (some 21) Try.func32 #[.agg #[.slice A0_0 l0_0.length c0_0, .slice A0_1 l0_1.length c0_1]] (h := ?_); (with_reducible refine (carouselref5_Is.calls k _ _ l0_0 _ _ l0_1 true _ ?side1 ?side2 ?side3 ?side4 A9.out).mono ?_); (case side1 => exact zk_ (Kd.C_below HR0_0.out HB.out)); (case side2 => exact HC0_0.out); (case side3 => exact zk_ (Kd.C_below HR0_1.out HB.out)); (case side4 => exact HC0_1.out); rintro e w25 ⟨rfl, hb⟩; refine ⟨_, rfl, ?_⟩; replace BK395 := za_ BK395 hb; replace BK396 := za_ BK396 hb; replace BK397 := za_ BK397 hb; replace HB := Aside0.mk (below_step (zw3_ HB GE395 GE396 GE397) hb); (try clear hb); have hnb26 := NB396_397.out; have hnc26 := NB397_396.out; have hcz27_0 := zx_ (v := .slice A1_0 l1_0.length c1_0) BK396 0; have hcz27_1 := zx_ (v := .slice A1_1 l1_1.length c1_1) BK396 1; have hfz27_0 := blk_frozen BK396.out 0; have hfz27_1 := blk_frozen BK396.out 1) | (go_at_call 32; (with_reducible refine (carouselref5_Is.calls k _ _ l1_0 _ _ l1_1 true _ ?side1 ?side2 ?side3 ?side4 A11.out).mono ?_); (case side1 => exact zk_ (Kd.C_below HR1_0.out HB.out)); (case side2 => exact HC1_0.out); (case side3 => exact zk_ (Kd.C_below HR1_1.out HB.out)); (case side4 => exact HC1_1.out); rintro e w28 ⟨rfl, hb⟩; replace BK395 := za_ BK395 hb; replace BK396 := za_ BK396 hb; replace BK397 := za_ BK397 hb; replace HB := Aside0.mk (below_step (zw3_ HB GE395 GE396 GE397) hb); (try clear hb)))
   go_meet
   case rel => exact ⟨_, (true), z1_, H', ⟨by first | omega | exact Nat.le_refl _⟩, ⟨zb_ BK395⟩, ⟨zb_ BK396⟩, ⟨zb_ BK397⟩, ⟨zw3_ HB GE395 GE396 GE397⟩⟩
  rw [if_neg c21] at H
  have c21b0 : decide (64 < a2) = false := decide_eq_false c21
  clear c21
  by_cases c29 : a3 < 1
  ·rw [if_pos c29] at H
   have c29b0 : decide (a3 < 1) = true := decide_eq_true c29
   clear c29
   have H' := Aside0.mk H
   clear H
   have hnb30 := NB395_396.out
   have hnc30 := NB396_395.out
   have hnb31 := NB395_397.out
   have hnc31 := NB397_395.out
   have hcz32_0 := zx_ (v := .slice A0_0 l0_0.length c0_0) BK395 0
   have hcz32_1 := zx_ (v := .slice A0_1 l0_1.length c0_1) BK395 1
   have hfz32_0 := blk_frozen BK395.out 0
   have hfz32_1 := blk_frozen BK395.out 1
   go_wp2_with (first | ((with_reducible refine gate_callee (f := 32) rfl ?_); refine zg_ (some 21) Try.func32 #[.agg #[.slice A0_0 l0_0.length c0_0, .slice A0_1 l0_1.length c0_1]] (h := ?_); (with_reducible refine (carouselref5_Is.calls k _ _ l0_0 _ _ l0_1 true _ ?side1 ?side2 ?side3 ?side4 A9.out).mono ?_); (case side1 => exact zk_ (Kd.C_below HR0_0.out HB.out)); (case side2 => exact HC0_0.out); (case side3 => exact zk_ (Kd.C_below HR0_1.out HB.out)); (case side4 => exact HC0_1.out); rintro e w33 ⟨rfl, hb⟩; refine ⟨_, rfl, ?_⟩; replace BK395 := za_ BK395 hb; replace BK396 := za_ BK396 hb; replace BK397 := za_ BK397 hb; replace HB := Aside0.mk (below_step (zw3_ HB GE395 GE396 GE397) hb); (try clear hb); have hnb34 := NB396_397.out; have hnc34 := NB397_396.out; have hcz35_0 := zx_ (v := .slice A1_0 l1_0.length c1_0) BK396 0; have hcz35_1 := zx_ (v := .slice A1_1 l1_1.length c1_1) BK396 1; have hfz35_0 := blk_frozen BK396.out 0; have hfz35_1 := blk_frozen BK396.out 1) | (go_at_call 32; (with_reducible refine (carouselref5_Is.calls k _ _ l1_0 _ _ l1_1 true _ ?side1 ?side2 ?side3 ?side4 A11.out).mono ?_); (case side1 => exact zk_ (Kd.C_below HR1_0.out HB.out)); (case side2 => exact HC1_0.out); (case side3 => exact zk_ (Kd.C_below HR1_1.out HB.out)); (case side4 => exact HC1_1.out); rintro e w36 ⟨rfl, hb⟩; replace BK395 := za_ BK395 hb; replace BK396 := za_ BK396 hb; replace BK397 := za_ BK397 hb; replace HB := Aside0.mk (below_step (zw3_ HB GE395 GE396 GE397) hb); (try clear hb)))
   go_meet
   case rel => exact ⟨_, (true), z1_, H', ⟨by first | omega | exact Nat.le_refl _⟩, ⟨zb_ BK395⟩, ⟨zb_ BK396⟩, ⟨zb_ BK397⟩, ⟨zw3_ HB GE395 GE396 GE397⟩⟩
  rw [if_neg c29] at H
  have c29b0 : decide (a3 < 1) = false := decide_eq_false c29
  clear c29
  have H' := Aside0.mk H
  clear H
  have hnb37 := NB395_396.out
  have hnc37 := NB396_395.out
  have hnb38 := NB395_397.out
  have hnc38 := NB397_395.out
  have hcz39_0 := zx_ (v := .slice A0_0 l0_0.length c0_0) BK395 0
  have hcz39_1 := zx_ (v := .slice A0_1 l0_1.length c0_1) BK395 1
  have hfz39_0 := blk_frozen BK395.out 0
  have hfz39_1 := blk_frozen BK395.out 1
  go_wp2_with (first | ((with_reducible refine gate_callee (f := 32) rfl ?_); refine zg_ (some 21) Try.func32 #[.agg #[.slice A0_0 l0_0.length c0_0, .slice A0_1 l0_1.length c0_1]] (h := ?_); (with_reducible refine (carouselref5_Is.calls k _ _ l0_0 _ _ l0_1 true _ ?side1 ?side2 ?side3 ?side4 A9.out).mono ?_); (case side1 => exact zk_ (Kd.C_below HR0_0.out HB.out)); (case side2 => exact HC0_0.out); (case side3 => exact zk_ (Kd.C_below HR0_1.out HB.out)); (case side4 => exact HC0_1.out); rintro e w40 ⟨rfl, hb⟩; refine ⟨_, rfl, ?_⟩; replace BK395 := za_ BK395 hb; replace BK396 := za_ BK396 hb; replace BK397 := za_ BK397 hb; replace HB := Aside0.mk (below_step (zw3_ HB GE395 GE396 GE397) hb); (try clear hb); have hnb41 := NB396_397.out; have hnc41 := NB397_396.out; have hcz42_0 := zx_ (v := .slice A1_0 l1_0.length c1_0) BK396 0; have hcz42_1 := zx_ (v := .slice A1_1 l1_1.length c1_1) BK396 1; have hfz42_0 := blk_frozen BK396.out 0; have hfz42_1 := blk_frozen BK396.out 1) | (go_at_call 32; (with_reducible refine (carouselref5_Is.calls k _ _ l1_0 _ _ l1_1 true _ ?side1 ?side2 ?side3 ?side4 A11.out).mono ?_); (case side1 => exact zk_ (Kd.C_below HR1_0.out HB.out)); (case side2 => exact HC1_0.out); (case side3 => exact zk_ (Kd.C_below HR1_1.out HB.out)); (case side4 => exact HC1_1.out); rintro e w43 ⟨rfl, hb⟩; replace BK395 := za_ BK395 hb; replace BK396 := za_ BK396 hb; replace BK397 := za_ BK397 hb; replace HB := Aside0.mk (below_step (zw3_ HB GE395 GE396 GE397) hb); (try clear hb)))
  go_meet
  case rel => exact ⟨_, (decide (a3 > 4096)), z1_, H', ⟨by first | omega | exact Nat.le_refl _⟩, ⟨zb_ BK395⟩, ⟨zb_ BK396⟩, ⟨zb_ BK397⟩, ⟨zw3_ HB GE395 GE396 GE397⟩⟩
 case rest =>
  clear HC5
  try clear c1
  try clear c2
  try clear p2
  try clear c3
  try clear c4
  try clear c5
  try clear c10
  try clear c12
  try clear c13
  try clear c13b0
  try clear c14
  try clear c15
  try clear c18
  try clear c21
  try clear c21b0
  try clear c22
  try clear c23
  try clear c25
  try clear c26
  try clear c29
  try clear c29b0
  try clear c30
  try clear c31
  try clear c32
  try clear c34
  try clear c37
  try clear c38
  try clear c41
  try clear c44
  try clear c45
  try clear c48
  try clear c51
  try clear c52
  try clear hcz16_0
  try clear hcz16_1
  try clear hcz19_0
  try clear hcz19_1
  try clear hcz24_0
  try clear hcz24_1
  try clear hcz27_0
  try clear hcz27_1
  try clear hcz32_0
  try clear hcz32_1
  try clear hcz35_0
  try clear hcz35_1
  try clear hcz39_0
  try clear hcz39_1
  try clear hcz42_0
  try clear hcz42_1
  try clear hcz46_0
  try clear hcz46_1
  try clear hcz49_0
  try clear hcz49_1
  try clear hcz53_0
  try clear hcz53_1
  try clear hfz16_0
  try clear hfz16_1
  try clear hfz19_0
  try clear hfz19_1
  try clear hfz24_0
  try clear hfz24_1
  try clear hfz27_0
  try clear hfz27_1
  try clear hfz32_0
  try clear hfz32_1
  try clear hfz35_0
  try clear hfz35_1
  try clear hfz39_0
  try clear hfz39_1
  try clear hfz42_0
  try clear hfz42_1
  try clear hfz46_0
  try clear hfz46_1
  try clear hfz49_0
  try clear hfz49_1
  try clear hfz53_0
  try clear hfz53_1
  obtain ⟨kq, x43_4, rfl, HA, HJ4, BK395, BK396, BK397, HB⟩ := hcut
  cases kq with
  | zero => exact absurd HA.out (by simp [carouselref5_BackKernel.j0])
  | succ kj4 =>
   have H := HA.out
   clear HA
   simp only [carouselref5_BackKernel.j0] at H
   by_cases c55 : x43_4 = true
   ·subst c55
    have H1 : (some (([] : List Int), ([] : List Int), 1)) = some (r1, r2, r3) := by rw [if_pos rfl] at H; exact H
    clear H
    have H := H1
    clear H1
    simp only [Option.some.injEq, Prod.mk.injEq] at H
    obtain ⟨rfl, rfl, rfl⟩ := H
    have hnb56 := NB397_395.out
    have hnc56 := NB395_397.out
    have hnb57 := NB397_396.out
    have hnc57 := NB396_397.out
    have hcz58_0 := zx_ (v := .slice none 0 0) BK397 0
    have hcz58_1 := zx_ (v := .slice none 0 0) BK397 1
    have hfz58_0 := blk_frozen BK397.out 0
    have hfz58_1 := blk_frozen BK397.out 1
    go_wp2
    refine bodyPost_ret (results_ct rfl _ _ gb397 25 #[.slice none 0 0, .slice none 0 0] (0, 0) _ rfl (zo2_ BK397) Try.underlying25 rfl (by kernel_rfl)) rfl ?_
    exact ⟨_, _, z0_, z2_, z2_, zw3_ HB GE395 GE396 GE397⟩
   replace c55 := Bool.eq_false_iff.mpr c55
   subst c55
   have H1 := H
   rw [if_neg (show ¬ (false = true) by decide)] at H1
   clear H
   have H := H1
   clear H1
   have HC59 := Aside0.mk H
   clear H
   go_upto_region 3 with (fail)
   go_cut [78] (fun v78 wc => ∃ (kq : Nat) (x78_58 : Bool), v78 = .bool x78_58 ∧ Aside0 (carouselref5_BackKernel.j1 kq a2 a3 x78_58 l0_0 l0_1 l1_0 l1_1 = some (r1, r2, r3)) ∧ Aside0 (kq ≤ kj4) ∧ Aside0 (wc.heap[gb395]? = some (.cells #[(.slice A0_0 l0_0.length c0_0), (.slice A0_1 l0_1.length c0_1)] 25 (0, 0))) ∧ Aside0 (wc.heap[gb396]? = some (.cells #[(.slice A1_0 l1_0.length c1_0), (.slice A1_1 l1_1.length c1_1)] 25 (0, 0))) ∧ Aside0 (wc.heap[gb397]? = some (.cells #[(.slice none 0 0), (.slice none 0 0)] 25 (0, 0))) ∧ Aside0 (Below w.heap.size w wc))
   case first =>
    have H := HC59.out
    clear HC59
    by_cases c60 : (l0_0.length : Int) = 2
    rotate_left
    ·rw [if_neg c60] at H
     have c60b0 : ((l0_0.length : Int) == 2) = false := beq_eq_false_iff_ne.mpr c60
     have c60b1 : ((l0_0.length : Int) != 2) = true := bne_iff_ne.mpr c60
     (first | rw [c60b0] | (simp only [i64_w, i32_w]; rw [c60b0]) | skip)
     have H' := Aside0.mk H
     clear H
     try go_wp2
     replace BK395 := Aside0.mk (blk_drew BK395.out)
     replace BK396 := Aside0.mk (blk_drew BK396.out)
     replace BK397 := Aside0.mk (blk_drew BK397.out)
     replace HB := Aside0.mk (below_drew1 HB.out)
     refine start_ (n := 34) (S := fun w' => w'.cell? ⟨gb395, 0, none⟩ = some (.slice A0_0 l0_0.length c0_0) ∧ w'.cell? ⟨gb395, 1, none⟩ = some (.slice A0_1 l0_1.length c0_1)) (ds := []) #[false, false, false, false, false, false, false, false, false, false, false, false, false, false, false, false, false, false, false, false, false, false, false, false, false, false, false, false, false, false, false, false, false, false] (by kernel_rfl) rfl rfl ⟨(blk_cell BK395.out 0).trans rfl, (blk_cell BK395.out 1).trans rfl⟩ (fun hHeld => ?_); refine with_tabW carouselref5_BackKernel.tab3 carouselref5_BackKernel.bits3 (fun HT_ HW_ => ?_)
     generalize wc.drew = w69 at BK395 BK396 BK397 HB hHeld ⊢
     refine yp_ ?_ 0 45
     refine yt2_ ?_ 1 46
     refine yp_ ?_ 2 47
     refine yp_ ?_ 3 48
     refine yp_ ?_ 4 49
     refine yu_ ?_ 5 50
     refine yu_ ?_ 6 51
     refine yu_ ?_ 7 52
     refine yu_ ?_ 8 53
     refine yp_ ?_ 9 54
     refine yp_ ?_ 10 55
     refine yu_ ?_ 11 56
     refine yu_ ?_ 12 57
     refine yu_ ?_ 13 58
     refine yu_ ?_ 14 59
     refine yu_ ?_ 15 60
     refine yu_ ?_ 16 61
     refine yp_ ?_ 17 62
     refine yp_ ?_ 18 63
     refine yu_ ?_ 19 64
     refine yu_ ?_ 20 65
     refine yu_ ?_ 21 66
     refine yu_ ?_ 22 67
     refine yu_ ?_ 23 68
     refine yu_ ?_ 24 69
     refine yu_ ?_ 25 70
     refine yu_ ?_ 26 71
     refine yu_ ?_ 27 72
     refine yu_ ?_ 28 73
     refine yu_ ?_ 29 74
     refine yu_ ?_ 30 75
     refine yu_ ?_ 31 76
     refine yu_ ?_ 32 77
     refine yp_ ?_ 33 78
     refine done_ (done_of HT_.out (by kernel_rfl)) ?_
     try go_wp2
     go_meet
     case rel => exact ⟨_, (true), z1_, H', ⟨by have := HJ4.out; first | omega | exact Nat.le_refl _⟩, ⟨zb_ BK395⟩, ⟨zb_ BK396⟩, ⟨zb_ BK397⟩, ⟨zw3_ HB GE395 GE396 GE397⟩⟩
    rw [if_pos c60] at H
    have c60b0 : ((l0_0.length : Int) == 2) = true := beq_iff_eq.mpr c60
    have c60b1 : ((l0_0.length : Int) != 2) = false := bne_eq_false_iff_eq.mpr c60
    clear c60
    (first | rw [c60b0] | (simp only [i64_w, i32_w]; rw [c60b0]) | skip)
    by_cases c61 : (l1_0.length : Int) = 2
    rotate_left
    ·rw [if_neg c61] at H
     have c61b0 : ((l1_0.length : Int) == 2) = false := beq_eq_false_iff_ne.mpr c61
     have c61b1 : ((l1_0.length : Int) != 2) = true := bne_iff_ne.mpr c61
     have H' := Aside0.mk H
     clear H
     try go_wp2
     replace BK395 := Aside0.mk (blk_drew BK395.out)
     replace BK396 := Aside0.mk (blk_drew BK396.out)
     replace BK397 := Aside0.mk (blk_drew BK397.out)
     replace HB := Aside0.mk (below_drew1 HB.out)
     refine start_ (n := 34) (S := fun w' => w'.cell? ⟨gb395, 0, none⟩ = some (.slice A0_0 l0_0.length c0_0) ∧ w'.cell? ⟨gb395, 1, none⟩ = some (.slice A0_1 l0_1.length c0_1) ∧ w'.cell? ⟨gb396, 0, none⟩ = some (.slice A1_0 l1_0.length c1_0) ∧ w'.cell? ⟨gb396, 1, none⟩ = some (.slice A1_1 l1_1.length c1_1)) (ds := []) #[false, false, false, false, false, false, false, false, false, false, false, false, false, false, false, false, false, false, false, false, false, false, false, false, false, false, false, false, false, false, false, false, false, false] (by kernel_rfl) rfl rfl ⟨(blk_cell BK395.out 0).trans rfl, (blk_cell BK395.out 1).trans rfl, (blk_cell BK396.out 0).trans rfl, (blk_cell BK396.out 1).trans rfl⟩ (fun hHeld => ?_); refine with_tabW carouselref5_BackKernel.tab3 carouselref5_BackKernel.bits3 (fun HT_ HW_ => ?_)
     generalize wc.drew = w68 at BK395 BK396 BK397 HB hHeld ⊢
     refine yp_ ?_ 0 45
     refine yt4_ ?_ 1 46
     refine yp_ ?_ 2 47
     refine yp_ ?_ 3 48
     refine yp_ ?_ 4 49
     refine yp_ ?_ 5 50
     refine yt4_ ?_ 6 51
     refine yp_ ?_ 7 52
     refine yp_ ?_ 8 53
     refine yp_ ?_ 9 54
     refine yp_ ?_ 10 55
     refine yu_ ?_ 11 56
     refine yu_ ?_ 12 57
     refine yu_ ?_ 13 58
     refine yu_ ?_ 14 59
     refine yu_ ?_ 15 60
     refine yu_ ?_ 16 61
     refine yp_ ?_ 17 62
     refine yp_ ?_ 18 63
     refine yu_ ?_ 19 64
     refine yu_ ?_ 20 65
     refine yu_ ?_ 21 66
     refine yu_ ?_ 22 67
     refine yu_ ?_ 23 68
     refine yu_ ?_ 24 69
     refine yu_ ?_ 25 70
     refine yu_ ?_ 26 71
     refine yu_ ?_ 27 72
     refine yu_ ?_ 28 73
     refine yu_ ?_ 29 74
     refine yu_ ?_ 30 75
     refine yu_ ?_ 31 76
     refine yu_ ?_ 32 77
     refine yp_ ?_ 33 78
     refine done_ (done_of HT_.out (by kernel_rfl)) ?_
     try go_wp2
     go_meet
     case rel => exact ⟨_, (true), z1_, H', ⟨by have := HJ4.out; first | omega | exact Nat.le_refl _⟩, ⟨zb_ BK395⟩, ⟨zb_ BK396⟩, ⟨zb_ BK397⟩, ⟨zw3_ HB GE395 GE396 GE397⟩⟩
    rw [if_pos c61] at H
    have c61b0 : ((l1_0.length : Int) == 2) = true := beq_iff_eq.mpr c61
    have c61b1 : ((l1_0.length : Int) != 2) = false := bne_eq_false_iff_eq.mpr c61
    clear c61
    by_cases c62 : 1 < (l1_0.length : Int)
    rotate_left
    ·rw [if_neg c62] at H
     exact absurd H (by simp)
    rw [if_pos c62] at H
    have c62b0 : decide (1 < (l1_0.length : Int)) = true := decide_eq_true c62
    have c62b1 : decide (1 < l1_0.length) = true := decide_eq_true (by omega)
    clear c62
    by_cases c63 : a3 > (rd l1_0 1)
    ·rw [if_pos c63] at H
     have c63b0 : decide ((rd l1_0 1) < a3) = true := decide_eq_true c63
     clear c63
     have H' := Aside0.mk H
     clear H
     try go_wp2
     replace BK395 := Aside0.mk (blk_drew BK395.out)
     replace BK396 := Aside0.mk (blk_drew BK396.out)
     replace BK397 := Aside0.mk (blk_drew BK397.out)
     replace HB := Aside0.mk (below_drew1 HB.out)
     have p400 : 0 ≤ (1 : Int) := (by omega)
     have q400 : 1 < (l1_0.length : Int) := of_decide_eq_true (by first | (with_reducible assumption) | assumption)
     obtain ⟨ad400, e400, hx400_0⟩ := Kd.at_int HR1_0.out 1 p400 q400
     have hw400_0 := hx400_0
     (try rw [show ((1 : Int)).toNat = 1 from rfl] at hw400_0)
     (try rw [show 1 * 1 = 1 from rfl] at hw400_0)
     (try simp only [Nat.reduceMul, Nat.reduceEqDiff, Go.Addr.add, ↓reduceIte] at hw400_0)
     cases e400
     (try simp only [show (1 : Int).toNat = 1 from rfl, Nat.reduceMul, Nat.reduceEqDiff, Go.Addr.add, ↓reduceIte] at hx400_0)
     have qi400 : (1 < l1_0.length) = True := eq_true (by omega)
     (try rw [show ((1 : Int)).toNat = 1 from rfl] at hx400_0)
     replace hx400_0 := (HB.out.cell (World.block_lt_of_cell? w _ hx400_0)).trans hx400_0
     replace p400 := eq_true p400
     replace q400 := eq_true q400
     refine start_ (n := 34) (S := fun w' => w'.cell? ⟨gb395, 0, none⟩ = some (.slice A0_0 l0_0.length c0_0) ∧ w'.cell? ⟨gb395, 1, none⟩ = some (.slice A0_1 l0_1.length c0_1) ∧ w'.cell? ⟨gb396, 0, none⟩ = some (.slice (some ad400) l1_0.length c1_0) ∧ w'.cell? ⟨gb396, 1, none⟩ = some (.slice A1_1 l1_1.length c1_1) ∧ w'.cell? ⟨ad400.block, ad400.off + 1, none⟩ = some (.int .i64 (rd l1_0 1))) (ds := []) #[false, false, false, false, false, false, false, false, false, false, false, false, false, false, false, false, false, false, false, false, false, false, false, false, false, false, false, false, false, false, false, false, false, false] (by kernel_rfl) rfl rfl ⟨(blk_cell BK395.out 0).trans rfl, (blk_cell BK395.out 1).trans rfl, (blk_cell BK396.out 0).trans rfl, (blk_cell BK396.out 1).trans rfl, ((HB.out.cell (World.block_lt_of_cell? w _ hw400_0)).trans hw400_0)⟩ (fun hHeld => ?_); refine with_tabW carouselref5_BackKernel.tab3 carouselref5_BackKernel.bits3 (fun HT_ HW_ => ?_)
     generalize wc.drew = w64 at BK395 BK396 BK397 HB hx400_0 hHeld ⊢
     refine yp_ ?_ 0 45
     refine yt5_ ?_ 1 46
     refine yp_ ?_ 2 47
     refine yp_ ?_ 3 48
     refine yp_ ?_ 4 49
     refine yp_ ?_ 5 50
     refine yt5_ ?_ 6 51
     refine yp_ ?_ 7 52
     refine yp_ ?_ 8 53
     refine yp_ ?_ 9 54
     refine yp_ ?_ 10 55
     refine yp_ ?_ 11 56
     refine yp_ ?_ 12 57
     refine yt5_ ?_ 13 58
     refine yp_ ?_ 14 59
     refine yt5_ ?_ 15 60
     refine yp_ ?_ 16 61
     refine yp_ ?_ 17 62
     refine yp_ ?_ 18 63
     refine yu_ ?_ 19 64
     refine yu_ ?_ 20 65
     refine yu_ ?_ 21 66
     refine yu_ ?_ 22 67
     refine yu_ ?_ 23 68
     refine yu_ ?_ 24 69
     refine yu_ ?_ 25 70
     refine yu_ ?_ 26 71
     refine yu_ ?_ 27 72
     refine yu_ ?_ 28 73
     refine yu_ ?_ 29 74
     refine yu_ ?_ 30 75
     refine yu_ ?_ 31 76
     refine yu_ ?_ 32 77
     refine yp_ ?_ 33 78
     refine done_ (done_of HT_.out (by kernel_rfl)) ?_
     try go_wp2
     go_meet
     case rel => exact ⟨_, (true), z1_, H', ⟨by have := HJ4.out; first | omega | exact Nat.le_refl _⟩, ⟨zb_ BK395⟩, ⟨zb_ BK396⟩, ⟨zb_ BK397⟩, ⟨zw3_ HB GE395 GE396 GE397⟩⟩
    rw [if_neg c63] at H
    have c63b0 : decide ((rd l1_0 1) < a3) = false := decide_eq_false c63
    clear c63
    by_cases c65 : 1 < (l0_0.length : Int)
    rotate_left
    ·rw [if_neg c65] at H
     exact absurd H (by simp)
    rw [if_pos c65] at H
    have c65b0 : decide (1 < (l0_0.length : Int)) = true := decide_eq_true c65
    have c65b1 : decide (1 < l0_0.length) = true := decide_eq_true (by omega)
    clear c65
    by_cases c66 : a2 = 0
    ·rw [if_pos c66] at H
     exact absurd H (by simp)
    rw [if_neg c66] at H
    have c66b0 : (a2 == 0) = false := beq_eq_false_iff_ne.mpr c66
    have c66b1 : (a2 != 0) = true := bne_iff_ne.mpr c66
    have H' := Aside0.mk H
    clear H
    try go_wp2
    replace BK395 := Aside0.mk (blk_drew BK395.out)
    replace BK396 := Aside0.mk (blk_drew BK396.out)
    replace BK397 := Aside0.mk (blk_drew BK397.out)
    replace HB := Aside0.mk (below_drew1 HB.out)
    have p400 : 0 ≤ (1 : Int) := (by omega)
    have q400 : 1 < (l1_0.length : Int) := of_decide_eq_true (by first | (with_reducible assumption) | assumption)
    obtain ⟨ad400, e400, hx400_0⟩ := Kd.at_int HR1_0.out 1 p400 q400
    have hw400_0 := hx400_0
    (try rw [show ((1 : Int)).toNat = 1 from rfl] at hw400_0)
    (try rw [show 1 * 1 = 1 from rfl] at hw400_0)
    (try simp only [Nat.reduceMul, Nat.reduceEqDiff, Go.Addr.add, ↓reduceIte] at hw400_0)
    cases e400
    (try simp only [show (1 : Int).toNat = 1 from rfl, Nat.reduceMul, Nat.reduceEqDiff, Go.Addr.add, ↓reduceIte] at hx400_0)
    have qi400 : (1 < l1_0.length) = True := eq_true (by omega)
    (try rw [show ((1 : Int)).toNat = 1 from rfl] at hx400_0)
    replace hx400_0 := (HB.out.cell (World.block_lt_of_cell? w _ hx400_0)).trans hx400_0
    replace p400 := eq_true p400
    replace q400 := eq_true q400
    have p401 : 0 ≤ (1 : Int) := (by omega)
    have q401 : 1 < (l0_0.length : Int) := of_decide_eq_true (by first | (with_reducible assumption) | assumption)
    obtain ⟨ad401, e401, hx401_0⟩ := Kd.at_int HR0_0.out 1 p401 q401
    have hw401_0 := hx401_0
    (try rw [show ((1 : Int)).toNat = 1 from rfl] at hw401_0)
    (try rw [show 1 * 1 = 1 from rfl] at hw401_0)
    (try simp only [Nat.reduceMul, Nat.reduceEqDiff, Go.Addr.add, ↓reduceIte] at hw401_0)
    cases e401
    (try simp only [show (1 : Int).toNat = 1 from rfl, Nat.reduceMul, Nat.reduceEqDiff, Go.Addr.add, ↓reduceIte] at hx401_0)
    have qi401 : (1 < l0_0.length) = True := eq_true (by omega)
    (try rw [show ((1 : Int)).toNat = 1 from rfl] at hx401_0)
    replace hx401_0 := (HB.out.cell (World.block_lt_of_cell? w _ hx401_0)).trans hx401_0
    replace p401 := eq_true p401
    replace q401 := eq_true q401
    have p402 : 0 ≤ (1 : Int) := (by omega)
    have q402 : 1 < (l1_0.length : Int) := of_decide_eq_true (by first | (with_reducible assumption) | assumption)
    obtain ⟨ad402, e402, hx402_0⟩ := Kd.at_int HR1_0.out 1 p402 q402
    have hw402_0 := hx402_0
    (try rw [show ((1 : Int)).toNat = 1 from rfl] at hw402_0)
    (try rw [show 1 * 1 = 1 from rfl] at hw402_0)
    (try simp only [Nat.reduceMul, Nat.reduceEqDiff, Go.Addr.add, ↓reduceIte] at hw402_0)
    obtain rfl : ad400 = ad402 := (by injection e402)
    (try simp only [show (1 : Int).toNat = 1 from rfl, Nat.reduceMul, Nat.reduceEqDiff, Go.Addr.add, ↓reduceIte] at hx402_0)
    have qi402 : (1 < l1_0.length) = True := eq_true (by omega)
    (try rw [show ((1 : Int)).toNat = 1 from rfl] at hx402_0)
    replace hx402_0 := (HB.out.cell (World.block_lt_of_cell? w _ hx402_0)).trans hx402_0
    replace p402 := eq_true p402
    replace q402 := eq_true q402
    refine start_ (n := 34) (S := fun w' => w'.cell? ⟨gb395, 0, none⟩ = some (.slice (some ad401) l0_0.length c0_0) ∧ w'.cell? ⟨gb395, 1, none⟩ = some (.slice A0_1 l0_1.length c0_1) ∧ w'.cell? ⟨gb396, 0, none⟩ = some (.slice (some ad400) l1_0.length c1_0) ∧ w'.cell? ⟨gb396, 1, none⟩ = some (.slice A1_1 l1_1.length c1_1) ∧ w'.cell? ⟨ad400.block, ad400.off + 1, none⟩ = some (.int .i64 (rd l1_0 1)) ∧ w'.cell? ⟨ad401.block, ad401.off + 1, none⟩ = some (.int .i64 (rd l0_0 1)) ∧ w'.cell? ⟨ad400.block, ad400.off + 1, none⟩ = some (.int .i64 (rd l1_0 1))) (ds := []) #[false, false, false, false, false, false, false, false, false, false, false, false, false, false, false, false, false, false, false, false, false, false, false, false, false, false, false, false, false, false, false, false, false, false] (by kernel_rfl) rfl rfl ⟨(blk_cell BK395.out 0).trans rfl, (blk_cell BK395.out 1).trans rfl, (blk_cell BK396.out 0).trans rfl, (blk_cell BK396.out 1).trans rfl, ((HB.out.cell (World.block_lt_of_cell? w _ hw400_0)).trans hw400_0), ((HB.out.cell (World.block_lt_of_cell? w _ hw401_0)).trans hw401_0), ((HB.out.cell (World.block_lt_of_cell? w _ hw402_0)).trans hw402_0)⟩ (fun hHeld => ?_); refine with_tabW carouselref5_BackKernel.tab3 carouselref5_BackKernel.bits3 (fun HT_ HW_ => ?_)
    generalize wc.drew = w67 at BK395 BK396 BK397 HB hx400_0 hx401_0 hx402_0 hHeld ⊢
    refine yp_ ?_ 0 45
    refine yt7_ ?_ 1 46
    refine yp_ ?_ 2 47
    refine yp_ ?_ 3 48
    refine yp_ ?_ 4 49
    refine yp_ ?_ 5 50
    refine yt7_ ?_ 6 51
    refine yp_ ?_ 7 52
    refine yp_ ?_ 8 53
    refine yp_ ?_ 9 54
    refine yp_ ?_ 10 55
    refine yp_ ?_ 11 56
    refine yp_ ?_ 12 57
    refine yt7_ ?_ 13 58
    refine yp_ ?_ 14 59
    refine yt7_ ?_ 15 60
    refine yp_ ?_ 16 61
    refine yp_ ?_ 17 62
    refine yp_ ?_ 18 63
    refine yp_ ?_ 19 64
    refine yp_ ?_ 23 68
    refine yp_ ?_ 27 72
    refine yp_ ?_ 29 74
    refine yt7_ ?_ 20 65
    refine yp_ ?_ 21 66
    refine yt7_ ?_ 22 67
    refine yt7_ ?_ 24 69
    refine yp_ ?_ 25 70
    refine yt7_ ?_ 26 71
    refine yp_ ?_ 28 73
    refine yp_ ?_ 30 75
    refine yp_ ?_ 31 76
    refine yp_ ?_ 32 77
    refine yp_ ?_ 33 78
    refine done_ (done_of HT_.out (by kernel_rfl)) ?_
    try go_wp2
    go_meet
    case rel => exact ⟨_, (((rd l0_0 1) != (wrap64 ((wrap64 (Int.tdiv (wrap64 ((rd l1_0 1) - a3)) a2)) + 1)))), z1_, H', ⟨by have := HJ4.out; first | omega | exact Nat.le_refl _⟩, ⟨zb_ BK395⟩, ⟨zb_ BK396⟩, ⟨zb_ BK397⟩, ⟨zw3_ HB GE395 GE396 GE397⟩⟩
   case rest =>
    clear HC59
    try clear c1
    try clear p2
    try clear c6
    try clear p6
    try clear c60
    try clear c60b0
    try clear c60b1
    try clear c61
    try clear c61b0
    try clear c61b1
    try clear c62
    try clear p64
    try clear c65
    obtain ⟨kq, x78_58, rfl, HA, HJ58, BK395, BK396, BK397, HB⟩ := hcut
    cases kq with
    | zero => exact absurd HA.out (by simp [carouselref5_BackKernel.j1])
    | succ kj58 =>
     have H := HA.out
     clear HA
     simp only [carouselref5_BackKernel.j1] at H
     by_cases c70 : x78_58 = true
     ·subst c70
      have H1 : (some (([] : List Int), ([] : List Int), 4)) = some (r1, r2, r3) := by rw [if_pos rfl] at H; exact H
      clear H
      have H := H1
      clear H1
      simp only [Option.some.injEq, Prod.mk.injEq] at H
      obtain ⟨rfl, rfl, rfl⟩ := H
      have hnb71 := NB397_395.out
      have hnc71 := NB395_397.out
      have hnb72 := NB397_396.out
      have hnc72 := NB396_397.out
      have hcz73_0 := zx_ (v := .slice none 0 0) BK397 0
      have hcz73_1 := zx_ (v := .slice none 0 0) BK397 1
      have hfz73_0 := blk_frozen BK397.out 0
      have hfz73_1 := blk_frozen BK397.out 1
      go_wp2
      refine bodyPost_ret (results_ct rfl _ _ gb397 25 #[.slice none 0 0, .slice none 0 0] (0, 0) _ rfl (zo2_ BK397) Try.underlying25 rfl (by kernel_rfl)) rfl ?_
      exact ⟨_, _, z0_, z2_, z2_, zw3_ HB GE395 GE396 GE397⟩
     replace c70 := Bool.eq_false_iff.mpr c70
     subst c70
     have H1 := H
     rw [if_neg (show ¬ (false = true) by decide)] at H1
     clear H
     have H := H1
     clear H1
     by_cases c74 : 0 < (l0_0.length : Int)
     rotate_left
     ·rw [if_neg c74] at H
      exact absurd H (by simp)
     rw [if_pos c74] at H
     have c74b0 : decide (0 < (l0_0.length : Int)) = true := decide_eq_true c74
     have c74b1 : decide (0 < l0_0.length) = true := decide_eq_true (by omega)
     clear c74
     by_cases c75 : 1 < (l0_0.length : Int)
     rotate_left
     ·rw [if_neg c75] at H
      exact absurd H (by simp)
     rw [if_pos c75] at H
     have c75b0 : decide (1 < (l0_0.length : Int)) = true := decide_eq_true c75
     have c75b1 : decide (1 < l0_0.length) = true := decide_eq_true (by omega)
     clear c75
     by_cases c76 : 0 < (l1_0.length : Int)
     rotate_left
     ·rw [if_neg c76] at H
      exact absurd H (by simp)
     rw [if_pos c76] at H
     have c76b0 : decide (0 < (l1_0.length : Int)) = true := decide_eq_true c76
     have c76b1 : decide (0 < l1_0.length) = true := decide_eq_true (by omega)
     clear c76
     by_cases c77 : 1 < (l1_0.length : Int)
     rotate_left
     ·rw [if_neg c77] at H
      exact absurd H (by simp)
     rw [if_pos c77] at H
     have c77b0 : decide (1 < (l1_0.length : Int)) = true := decide_eq_true c77
     have c77b1 : decide (1 < l1_0.length) = true := decide_eq_true (by omega)
     clear c77
     obtain ⟨y407, hy407⟩ : ∃ y_ : List Int, y_ = (([rd l0_0 0, rd l1_0 0, a3] : List Int)) := ⟨_, rfl⟩
     replace H : ((carouselref5_Good.f kj58 y407).bind fun t410 => (if t410 = true then ((carouselref5_New.f kj58 (([rd l0_0 0, rd l1_0 0, a3] : List Int)) 0).bind fun bt414 => (carouselref5_BackKernel.l0 kj58 a2 a3 (rd l0_0 0) (rd l0_0 1) (rd l1_0 0) (rd l1_0 1) 0 l0_0 l0_1 l1_0 l1_1 bt414.1 bt414.2)) else (some (([] : List Int), ([] : List Int), 2)))) = some (r1, r2, r3) := by first | (rw [hy407]; with_reducible exact H) | (have H2_ := (Option.bind_some _ _).symm.trans H; rw [hy407]; with_reducible exact H2_) | (have H2_ := (Option.bind_some _ _).symm.trans H; with_reducible exact H2_) | with_reducible exact H | (rw [hy407]; exact H) | exact H
     have Ny407 := Aside0.mk hy407
     clear hy407
     replace H := Option.bind_eq_some_iff.mp H
     obtain ⟨t410, A780, H⟩ := H
     (try dsimp only at H)
     have A78 := Aside0.mk A780
     clear A780
     by_cases c79 : t410 = true
     rotate_left
     ·replace c79 := Bool.eq_false_iff.mpr c79
      subst c79
      have H1 := H
      rw [if_neg (show ¬ (false = true) by decide)] at H1
      clear H
      have H := H1
      clear H1
      simp only [Option.some.injEq, Prod.mk.injEq] at H
      obtain ⟨rfl, rfl, rfl⟩ := H
      try go_wp2
      replace BK395 := Aside0.mk (blk_drew BK395.out)
      replace BK396 := Aside0.mk (blk_drew BK396.out)
      replace BK397 := Aside0.mk (blk_drew BK397.out)
      replace HB := Aside0.mk (below_drew1 HB.out)
      have p403 : 0 ≤ (0 : Int) := (by omega)
      have q403 : 0 < (l0_0.length : Int) := of_decide_eq_true (by first | (with_reducible assumption) | assumption)
      obtain ⟨ad403, e403, hx403_0⟩ := Kd.at_int HR0_0.out 0 p403 q403
      have hw403_0 := hx403_0
      (try rw [show ((0 : Int)).toNat = 0 from rfl] at hw403_0)
      (try rw [show 0 * 1 = 0 from rfl] at hw403_0)
      (try rw [Addr.add_zero'] at hw403_0)
      cases e403
      have qi403 : (0 < l0_0.length) = True := eq_true (by omega)
      (try rw [show ((0 : Int)).toNat = 0 from rfl] at hx403_0)
      (try rw [Addr.add_zero'] at hx403_0)
      replace hx403_0 := (HB.out.cell (World.block_lt_of_cell? w _ hx403_0)).trans hx403_0
      replace p403 := eq_true p403
      replace q403 := eq_true q403
      have p404 : 0 ≤ (1 : Int) := (by omega)
      have q404 : 1 < (l0_0.length : Int) := of_decide_eq_true (by first | (with_reducible assumption) | assumption)
      obtain ⟨ad404, e404, hx404_0⟩ := Kd.at_int HR0_0.out 1 p404 q404
      have hw404_0 := hx404_0
      (try rw [show ((1 : Int)).toNat = 1 from rfl] at hw404_0)
      (try rw [show 1 * 1 = 1 from rfl] at hw404_0)
      (try simp only [Nat.reduceMul, Nat.reduceEqDiff, Go.Addr.add, ↓reduceIte] at hw404_0)
      obtain rfl : ad403 = ad404 := (by injection e404)
      (try simp only [show (1 : Int).toNat = 1 from rfl, Nat.reduceMul, Nat.reduceEqDiff, Go.Addr.add, ↓reduceIte] at hx404_0)
      have qi404 : (1 < l0_0.length) = True := eq_true (by omega)
      (try rw [show ((1 : Int)).toNat = 1 from rfl] at hx404_0)
      replace hx404_0 := (HB.out.cell (World.block_lt_of_cell? w _ hx404_0)).trans hx404_0
      replace p404 := eq_true p404
      replace q404 := eq_true q404
      have p405 : 0 ≤ (0 : Int) := (by omega)
      have q405 : 0 < (l1_0.length : Int) := of_decide_eq_true (by first | (with_reducible assumption) | assumption)
      obtain ⟨ad405, e405, hx405_0⟩ := Kd.at_int HR1_0.out 0 p405 q405
      have hw405_0 := hx405_0
      (try rw [show ((0 : Int)).toNat = 0 from rfl] at hw405_0)
      (try rw [show 0 * 1 = 0 from rfl] at hw405_0)
      (try rw [Addr.add_zero'] at hw405_0)
      cases e405
      have qi405 : (0 < l1_0.length) = True := eq_true (by omega)
      (try rw [show ((0 : Int)).toNat = 0 from rfl] at hx405_0)
      (try rw [Addr.add_zero'] at hx405_0)
      replace hx405_0 := (HB.out.cell (World.block_lt_of_cell? w _ hx405_0)).trans hx405_0
      replace p405 := eq_true p405
      replace q405 := eq_true q405
      have p406 : 0 ≤ (1 : Int) := (by omega)
      have q406 : 1 < (l1_0.length : Int) := of_decide_eq_true (by first | (with_reducible assumption) | assumption)
      obtain ⟨ad406, e406, hx406_0⟩ := Kd.at_int HR1_0.out 1 p406 q406
      have hw406_0 := hx406_0
      (try rw [show ((1 : Int)).toNat = 1 from rfl] at hw406_0)
      (try rw [show 1 * 1 = 1 from rfl] at hw406_0)
      (try simp only [Nat.reduceMul, Nat.reduceEqDiff, Go.Addr.add, ↓reduceIte] at hw406_0)
      obtain rfl : ad405 = ad406 := (by injection e406)
      (try simp only [show (1 : Int).toNat = 1 from rfl, Nat.reduceMul, Nat.reduceEqDiff, Go.Addr.add, ↓reduceIte] at hx406_0)
      have qi406 : (1 < l1_0.length) = True := eq_true (by omega)
      (try rw [show ((1 : Int)).toNat = 1 from rfl] at hx406_0)
      replace hx406_0 := (HB.out.cell (World.block_lt_of_cell? w _ hx406_0)).trans hx406_0
      replace p406 := eq_true p406
      replace q406 := eq_true q406
      refine start_ (n := 20) (S := fun w' => w'.cell? ⟨gb395, 0, none⟩ = some (.slice (some ad403) l0_0.length c0_0) ∧ w'.cell? ⟨gb395, 1, none⟩ = some (.slice A0_1 l0_1.length c0_1) ∧ w'.cell? ⟨gb396, 0, none⟩ = some (.slice (some ad405) l1_0.length c1_0) ∧ w'.cell? ⟨gb396, 1, none⟩ = some (.slice A1_1 l1_1.length c1_1) ∧ w'.cell? ad403 = some (.int .i64 (rd l0_0 0)) ∧ w'.cell? ⟨ad403.block, ad403.off + 1, none⟩ = some (.int .i64 (rd l0_0 1)) ∧ w'.cell? ad405 = some (.int .i64 (rd l1_0 0)) ∧ w'.cell? ⟨ad405.block, ad405.off + 1, none⟩ = some (.int .i64 (rd l1_0 1))) (ds := []) #[false, false, false, false, false, false, false, false, false, false, false, false, false, false, false, false, false, false, false, false] (by kernel_rfl) rfl rfl ⟨(blk_cell BK395.out 0).trans rfl, (blk_cell BK395.out 1).trans rfl, (blk_cell BK396.out 0).trans rfl, (blk_cell BK396.out 1).trans rfl, ((HB.out.cell (World.block_lt_of_cell? w _ hw403_0)).trans hw403_0), ((HB.out.cell (World.block_lt_of_cell? w _ hw404_0)).trans hw404_0), ((HB.out.cell (World.block_lt_of_cell? w _ hw405_0)).trans hw405_0), ((HB.out.cell (World.block_lt_of_cell? w _ hw406_0)).trans hw406_0)⟩ (fun hHeld => ?_); refine with_tabW carouselref5_BackKernel.tab5 carouselref5_BackKernel.bits5 (fun HT_ HW_ => ?_)
      generalize wc.drew = w140 at BK395 BK396 BK397 HB hx403_0 hx404_0 hx405_0 hx406_0 hHeld ⊢
      refine yp_ ?_ 0 80
      refine yp_ ?_ 4 84
      refine yp_ ?_ 8 88
      refine yp_ ?_ 12 92
      refine yt8_ ?_ 1 81
      refine yp_ ?_ 2 82
      refine yt8_ ?_ 3 83
      refine yp_ ?_ 16 10
      refine yt8_ ?_ 5 85
      refine yp_ ?_ 6 86
      refine yt8_ ?_ 7 87
      refine yp_ ?_ 17 11
      refine yt8_ ?_ 9 89
      refine yp_ ?_ 10 90
      refine yt8_ ?_ 11 91
      refine yp_ ?_ 18 12
      refine yt8_ ?_ 13 93
      refine yp_ ?_ 14 94
      refine yt8_ ?_ 15 95
      refine yp_ ?_ 19 13
      refine done_ (done_of HT_.out (by kernel_rfl)) ?_
      try go_wp2_with (first | ((with_reducible refine gate_dst (N := 99) rfl ?_); (try (refine gate_guard (by rfl) ?_; dsimp only)); refine Kd.R_lit (Kd.int .i64) _ 3 ?hg (N := 99) ?hd (xs := ([rd l0_0 0, rd l1_0 0, a3] : List Int)) (inner := [.int .i64 (rd l0_0 0), .int .i64 (rd l1_0 0), .int .i64 a3]) (ok := fun _ => True) (okp := fun _ => True) ?hr ?hp (fun _ hk => hk) trivial (Below.refl _ _) (Nat.le_refl _) (by simp) ?_; (case hd => rfl); (case hg => rfl); (case hr => first | (go_simp; done) | (go_simp; rfl)); (case hp => exact (Reps.one (show Kd.M (Kd.int .i64) _ _ _ (rd l0_0 0) [.int .i64 (rd l0_0 0)] from rfl) (Reps.one (show Kd.M (Kd.int .i64) _ _ _ (rd l1_0 0) [.int .i64 (rd l1_0 0)] from rfl) (Reps.one (show Kd.M (Kd.int .i64) _ _ _ a3 [.int .i64 a3] from rfl) (Reps.none _ _))))); intro v408 w141 ho142 hb hg_ hnew_; clear hg_ hnew_; (first | rw [← Ny407.out] at ho142 | (simp only [Int.reduceToNat] at ho142; rw [← Ny407.out] at ho142)); have HO409 := Aside0.mk (Kd.R_lower ho142 (below_size (zw3_ HB GE395 GE396 GE397))); replace BK395 := za_ BK395 hb; replace BK396 := za_ BK396 hb; replace BK397 := za_ BK397 hb; replace HB := Aside0.mk (below_step (zw3_ HB GE395 GE396 GE397) hb); clear hb ho142; obtain ⟨Ao143, co143, eo143⟩ := Kd.R_slice HO409.out; subst eo143) | ((with_reducible refine gate_callee (f := 33) rfl ?_); refine zg_ (some 100) Try.func33 #[.slice Ao143 y407.length co143] (h := ?_); (with_reducible refine (carouselref5_Good.calls kj58 _ _ y407 false _ ?side1 ?side2 A78.out).mono ?_); (case side1 => exact zk_ ((Kd.R_reads' HO409.out).2.2)); (case side2 => exact (Kd.R_reads' HO409.out).2.1); rintro e w' ⟨rfl, ⟨nd, rfl⟩⟩; refine ⟨_, rfl, ?_⟩; (try (rw [drewN_self w141]; generalize hq_ : World.drewN w141 _ = w141; have n0_ : Aside0 (Kd.R (Kd.int .i64) 3 w141 w.heap.size (fun _ => True) (.slice Ao143 y407.length co143) y407) := ⟨by rw [← hq_]; exact (zr_ HO409.out)⟩; have n1_ : Aside0 (w141.heap[gb395]? = some (.cells #[.slice (some ad403) l0_0.length c0_0, .slice A0_1 l0_1.length c0_1] 25 (0, 0))) := ⟨by rw [← hq_]; exact (zb_ BK395)⟩; have n2_ : Aside0 (w141.heap[gb396]? = some (.cells #[.slice (some ad405) l1_0.length c1_0, .slice A1_1 l1_1.length c1_1] 25 (0, 0))) := ⟨by rw [← hq_]; exact (zb_ BK396)⟩; have n3_ : Aside0 (w141.heap[gb397]? = some (.cells #[.slice none 0 0, .slice none 0 0] 25 (0, 0))) := ⟨by rw [← hq_]; exact (zb_ BK397)⟩; have n4_ : Aside0 (Below w.heap.size w w141) := ⟨by rw [← hq_]; exact (zw3_ HB GE395 GE396 GE397)⟩; clear HO409 BK395 BK396 BK397 HB hq_; have HO409 := n0_; have BK395 := n1_; have BK396 := n2_; have BK397 := n3_; have HB := n4_; clear n0_ n1_ n2_ n3_ n4_)); have hnb144 := NB397_395.out; have hnc144 := NB395_397.out; have hnb145 := NB397_396.out; have hnc145 := NB396_397.out; have hcz146_0 := zx_ (v := .slice none 0 0) BK397 0; have hcz146_1 := zx_ (v := .slice none 0 0) BK397 1; have hfz146_0 := blk_frozen BK397.out 0; have hfz146_1 := blk_frozen BK397.out 1))
      refine bodyPost_ret (results_ct rfl _ _ gb397 25 #[.slice none 0 0, .slice none 0 0] (0, 0) _ rfl (zo2_ BK397) Try.underlying25 rfl (by kernel_rfl)) rfl ?_
      exact ⟨_, _, z0_, z2_, z2_, zw3_ HB GE395 GE396 GE397⟩
     subst c79
     have H1 := H
     rw [if_pos rfl] at H1
     clear H
     have H := H1
     clear H1
     obtain ⟨y411, hy411⟩ : ∃ y_ : List Int, y_ = (([rd l0_0 0, rd l1_0 0, a3] : List Int)) := ⟨_, rfl⟩
     replace H : ((carouselref5_New.f kj58 y411 0).bind fun bt414 => (carouselref5_BackKernel.l0 kj58 a2 a3 (rd l0_0 0) (rd l0_0 1) (rd l1_0 0) (rd l1_0 1) 0 l0_0 l0_1 l1_0 l1_1 bt414.1 bt414.2)) = some (r1, r2, r3) := by first | (rw [hy411]; with_reducible exact H) | (have H2_ := (Option.bind_some _ _).symm.trans H; rw [hy411]; with_reducible exact H2_) | (have H2_ := (Option.bind_some _ _).symm.trans H; with_reducible exact H2_) | with_reducible exact H | (rw [hy411]; exact H) | exact H
     have Ny411 := Aside0.mk hy411
     clear hy411
     replace H := Option.bind_eq_some_iff.mp H
     obtain ⟨⟨t414, t417⟩, A800, H⟩ := H
     (try dsimp only at H)
     have A80 := Aside0.mk A800
     clear A800
     have H' := Aside0.mk H
     clear H
     try go_wp2
     replace BK395 := Aside0.mk (blk_drew BK395.out)
     replace BK396 := Aside0.mk (blk_drew BK396.out)
     replace BK397 := Aside0.mk (blk_drew BK397.out)
     replace HB := Aside0.mk (below_drew1 HB.out)
     have p403 : 0 ≤ (0 : Int) := (by omega)
     have q403 : 0 < (l0_0.length : Int) := of_decide_eq_true (by first | (with_reducible assumption) | assumption)
     obtain ⟨ad403, e403, hx403_0⟩ := Kd.at_int HR0_0.out 0 p403 q403
     have hw403_0 := hx403_0
     (try rw [show ((0 : Int)).toNat = 0 from rfl] at hw403_0)
     (try rw [show 0 * 1 = 0 from rfl] at hw403_0)
     (try rw [Addr.add_zero'] at hw403_0)
     cases e403
     have qi403 : (0 < l0_0.length) = True := eq_true (by omega)
     (try rw [show ((0 : Int)).toNat = 0 from rfl] at hx403_0)
     (try rw [Addr.add_zero'] at hx403_0)
     replace hx403_0 := (HB.out.cell (World.block_lt_of_cell? w _ hx403_0)).trans hx403_0
     replace p403 := eq_true p403
     replace q403 := eq_true q403
     have p404 : 0 ≤ (1 : Int) := (by omega)
     have q404 : 1 < (l0_0.length : Int) := of_decide_eq_true (by first | (with_reducible assumption) | assumption)
     obtain ⟨ad404, e404, hx404_0⟩ := Kd.at_int HR0_0.out 1 p404 q404
     have hw404_0 := hx404_0
     (try rw [show ((1 : Int)).toNat = 1 from rfl] at hw404_0)
     (try rw [show 1 * 1 = 1 from rfl] at hw404_0)
     (try simp only [Nat.reduceMul, Nat.reduceEqDiff, Go.Addr.add, ↓reduceIte] at hw404_0)
     obtain rfl : ad403 = ad404 := (by injection e404)
     (try simp only [show (1 : Int).toNat = 1 from rfl, Nat.reduceMul, Nat.reduceEqDiff, Go.Addr.add, ↓reduceIte] at hx404_0)
     have qi404 : (1 < l0_0.length) = True := eq_true (by omega)
     (try rw [show ((1 : Int)).toNat = 1 from rfl] at hx404_0)
     replace hx404_0 := (HB.out.cell (World.block_lt_of_cell? w _ hx404_0)).trans hx404_0
     replace p404 := eq_true p404
     replace q404 := eq_true q404
     have p405 : 0 ≤ (0 : Int) := (by omega)
     have q405 : 0 < (l1_0.length : Int) := of_decide_eq_true (by first | (with_reducible assumption) | assumption)
     obtain ⟨ad405, e405, hx405_0⟩ := Kd.at_int HR1_0.out 0 p405 q405
     have hw405_0 := hx405_0
     (try rw [show ((0 : Int)).toNat = 0 from rfl] at hw405_0)
     (try rw [show 0 * 1 = 0 from rfl] at hw405_0)
     (try rw [Addr.add_zero'] at hw405_0)
     cases e405
     have qi405 : (0 < l1_0.length) = True := eq_true (by omega)
     (try rw [show ((0 : Int)).toNat = 0 from rfl] at hx405_0)
     (try rw [Addr.add_zero'] at hx405_0)
     replace hx405_0 := (HB.out.cell (World.block_lt_of_cell? w _ hx405_0)).trans hx405_0
     replace p405 := eq_true p405
     replace q405 := eq_true q405
     have p406 : 0 ≤ (1 : Int) := (by omega)
     have q406 : 1 < (l1_0.length : Int) := of_decide_eq_true (by first | (with_reducible assumption) | assumption)
     obtain ⟨ad406, e406, hx406_0⟩ := Kd.at_int HR1_0.out 1 p406 q406
     have hw406_0 := hx406_0
     (try rw [show ((1 : Int)).toNat = 1 from rfl] at hw406_0)
     (try rw [show 1 * 1 = 1 from rfl] at hw406_0)
     (try simp only [Nat.reduceMul, Nat.reduceEqDiff, Go.Addr.add, ↓reduceIte] at hw406_0)
     obtain rfl : ad405 = ad406 := (by injection e406)
     (try simp only [show (1 : Int).toNat = 1 from rfl, Nat.reduceMul, Nat.reduceEqDiff, Go.Addr.add, ↓reduceIte] at hx406_0)
     have qi406 : (1 < l1_0.length) = True := eq_true (by omega)
     (try rw [show ((1 : Int)).toNat = 1 from rfl] at hx406_0)
     replace hx406_0 := (HB.out.cell (World.block_lt_of_cell? w _ hx406_0)).trans hx406_0
     replace p406 := eq_true p406
     replace q406 := eq_true q406
     refine start_ (n := 20) (S := fun w' => w'.cell? ⟨gb395, 0, none⟩ = some (.slice (some ad403) l0_0.length c0_0) ∧ w'.cell? ⟨gb395, 1, none⟩ = some (.slice A0_1 l0_1.length c0_1) ∧ w'.cell? ⟨gb396, 0, none⟩ = some (.slice (some ad405) l1_0.length c1_0) ∧ w'.cell? ⟨gb396, 1, none⟩ = some (.slice A1_1 l1_1.length c1_1) ∧ w'.cell? ad403 = some (.int .i64 (rd l0_0 0)) ∧ w'.cell? ⟨ad403.block, ad403.off + 1, none⟩ = some (.int .i64 (rd l0_0 1)) ∧ w'.cell? ad405 = some (.int .i64 (rd l1_0 0)) ∧ w'.cell? ⟨ad405.block, ad405.off + 1, none⟩ = some (.int .i64 (rd l1_0 1))) (ds := []) #[false, false, false, false, false, false, false, false, false, false, false, false, false, false, false, false, false, false, false, false] (by kernel_rfl) rfl rfl ⟨(blk_cell BK395.out 0).trans rfl, (blk_cell BK395.out 1).trans rfl, (blk_cell BK396.out 0).trans rfl, (blk_cell BK396.out 1).trans rfl, ((HB.out.cell (World.block_lt_of_cell? w _ hw403_0)).trans hw403_0), ((HB.out.cell (World.block_lt_of_cell? w _ hw404_0)).trans hw404_0), ((HB.out.cell (World.block_lt_of_cell? w _ hw405_0)).trans hw405_0), ((HB.out.cell (World.block_lt_of_cell? w _ hw406_0)).trans hw406_0)⟩ (fun hHeld => ?_); refine with_tabW carouselref5_BackKernel.tab5 carouselref5_BackKernel.bits5 (fun HT_ HW_ => ?_)
     generalize wc.drew = w81 at BK395 BK396 BK397 HB hx403_0 hx404_0 hx405_0 hx406_0 hHeld ⊢
     refine yp_ ?_ 0 80
     refine yp_ ?_ 4 84
     refine yp_ ?_ 8 88
     refine yp_ ?_ 12 92
     refine yt8_ ?_ 1 81
     refine yp_ ?_ 2 82
     refine yt8_ ?_ 3 83
     refine yp_ ?_ 16 10
     refine yt8_ ?_ 5 85
     refine yp_ ?_ 6 86
     refine yt8_ ?_ 7 87
     refine yp_ ?_ 17 11
     refine yt8_ ?_ 9 89
     refine yp_ ?_ 10 90
     refine yt8_ ?_ 11 91
     refine yp_ ?_ 18 12
     refine yt8_ ?_ 13 93
     refine yp_ ?_ 14 94
     refine yt8_ ?_ 15 95
     refine yp_ ?_ 19 13
     refine done_ (done_of HT_.out (by kernel_rfl)) ?_
     try go_wp2_with (first | ((with_reducible refine gate_dst (N := 99) rfl ?_); (try (refine gate_guard (by rfl) ?_; dsimp only)); refine Kd.R_lit (Kd.int .i64) _ 3 ?hg (N := 99) ?hd (xs := ([rd l0_0 0, rd l1_0 0, a3] : List Int)) (inner := [.int .i64 (rd l0_0 0), .int .i64 (rd l1_0 0), .int .i64 a3]) (ok := fun _ => True) (okp := fun _ => True) ?hr ?hp (fun _ hk => hk) trivial (Below.refl _ _) (Nat.le_refl _) (by simp) ?_; (case hd => rfl); (case hg => rfl); (case hr => first | (go_simp; done) | (go_simp; rfl)); (case hp => exact (Reps.one (show Kd.M (Kd.int .i64) _ _ _ (rd l0_0 0) [.int .i64 (rd l0_0 0)] from rfl) (Reps.one (show Kd.M (Kd.int .i64) _ _ _ (rd l1_0 0) [.int .i64 (rd l1_0 0)] from rfl) (Reps.one (show Kd.M (Kd.int .i64) _ _ _ a3 [.int .i64 a3] from rfl) (Reps.none _ _))))); intro v408 w82 ho83 hb hg_ hnew_; clear hg_ hnew_; (first | rw [← Ny407.out] at ho83 | (simp only [Int.reduceToNat] at ho83; rw [← Ny407.out] at ho83)); have HO409 := Aside0.mk (Kd.R_lower ho83 (below_size (zw3_ HB GE395 GE396 GE397))); replace BK395 := za_ BK395 hb; replace BK396 := za_ BK396 hb; replace BK397 := za_ BK397 hb; replace HB := Aside0.mk (below_step (zw3_ HB GE395 GE396 GE397) hb); clear hb ho83; obtain ⟨Ao84, co84, eo84⟩ := Kd.R_slice HO409.out; subst eo84) | ((with_reducible refine gate_callee (f := 33) rfl ?_); refine zg_ (some 100) Try.func33 #[.slice Ao84 y407.length co84] (h := ?_); (with_reducible refine (carouselref5_Good.calls kj58 _ _ y407 true _ ?side1 ?side2 A78.out).mono ?_); (case side1 => exact zk_ ((Kd.R_reads' HO409.out).2.2)); (case side2 => exact (Kd.R_reads' HO409.out).2.1); rintro e w' ⟨rfl, ⟨nd, rfl⟩⟩; refine ⟨_, rfl, ?_⟩; (try (rw [drewN_self w82]; generalize hq_ : World.drewN w82 _ = w82; have n0_ : Aside0 (Kd.R (Kd.int .i64) 3 w82 w.heap.size (fun _ => True) (.slice Ao84 y407.length co84) y407) := ⟨by rw [← hq_]; exact (zr_ HO409.out)⟩; have n1_ : Aside0 (w82.heap[gb395]? = some (.cells #[.slice (some ad403) l0_0.length c0_0, .slice A0_1 l0_1.length c0_1] 25 (0, 0))) := ⟨by rw [← hq_]; exact (zb_ BK395)⟩; have n2_ : Aside0 (w82.heap[gb396]? = some (.cells #[.slice (some ad405) l1_0.length c1_0, .slice A1_1 l1_1.length c1_1] 25 (0, 0))) := ⟨by rw [← hq_]; exact (zb_ BK396)⟩; have n3_ : Aside0 (w82.heap[gb397]? = some (.cells #[.slice none 0 0, .slice none 0 0] 25 (0, 0))) := ⟨by rw [← hq_]; exact (zb_ BK397)⟩; have n4_ : Aside0 (Below w.heap.size w w82) := ⟨by rw [← hq_]; exact (zw3_ HB GE395 GE396 GE397)⟩; clear HO409 BK395 BK396 BK397 HB hq_; have HO409 := n0_; have BK395 := n1_; have BK396 := n2_; have BK397 := n3_; have HB := n4_; clear n0_ n1_ n2_ n3_ n4_))) | ((with_reducible refine gate_dst (N := 106) rfl ?_); (try (refine gate_guard (by rfl) ?_; dsimp only)); refine Kd.R_lit (Kd.int .i64) _ 3 ?hg (N := 106) ?hd (xs := ([rd l0_0 0, rd l1_0 0, a3] : List Int)) (inner := [.int .i64 (rd l0_0 0), .int .i64 (rd l1_0 0), .int .i64 a3]) (ok := fun _ => True) (okp := fun _ => True) ?hr ?hp (fun _ hk => hk) trivial (Below.refl _ _) (Nat.le_refl _) (by simp) ?_; (case hd => rfl); (case hg => rfl); (case hr => first | (go_simp; done) | (go_simp; rfl)); (case hp => exact (Reps.one (show Kd.M (Kd.int .i64) _ _ _ (rd l0_0 0) [.int .i64 (rd l0_0 0)] from rfl) (Reps.one (show Kd.M (Kd.int .i64) _ _ _ (rd l1_0 0) [.int .i64 (rd l1_0 0)] from rfl) (Reps.one (show Kd.M (Kd.int .i64) _ _ _ a3 [.int .i64 a3] from rfl) (Reps.none _ _))))); intro v412 w85 ho86 hb hg_ hnew_; clear hg_ hnew_; (first | rw [← Ny411.out] at ho86 | (simp only [Int.reduceToNat] at ho86; rw [← Ny411.out] at ho86)); have HO413 := Aside0.mk (Kd.R_lower (Kd.R_new' ho86 (Kd.R_lt (zr_ HO409.out))) (below_size (zw3_ HB GE395 GE396 GE397))); replace HO409 := ze_ HO409 ho86 hb; replace BK395 := za_ BK395 hb; replace BK396 := za_ BK396 hb; replace BK397 := za_ BK397 hb; replace HB := Aside0.mk (below_step (zw3_ HB GE395 GE396 GE397) hb); clear hb ho86; obtain ⟨Ao87, co87, eo87⟩ := Kd.R_slice HO413.out; subst eo87) | ((with_reducible refine gate_callee (f := 34) rfl ?_); refine zg_ (some 107) Try.func34 #[.slice Ao87 y411.length co87, .int .i64 0] (h := ?_); (with_reducible refine (carouselref5_New.calls kj58 _ _ y411 0 t414 t417 _ ?side1 ?side2 A80.out).mono ?_); (case side1 => exact zk_ ((Kd.R_reads' HO413.out).2.2)); (case side2 => exact (Kd.R_reads' HO413.out).2.1); rintro e w88 ⟨v415, v418, rfl, ho0, ho1, hb⟩; refine ⟨_, rfl, ?_⟩; have HO416 := Aside0.mk (Kd.R_lower (Kd.R_new' (Kd.R_new' ho0 (Kd.R_lt (zr_ HO409.out))) (Kd.R_lt (zr_ HO413.out))) (below_size (zw3_ HB GE395 GE396 GE397))); replace HO409 := ze_ HO409 ho0 hb; replace HO413 := ze_ HO413 ho0 hb; have HO419 := Aside0.mk (Kd.R_lower ho1 (below_size (zw3_ HB GE395 GE396 GE397))); replace BK395 := za_ BK395 hb; replace BK396 := za_ BK396 hb; replace BK397 := za_ BK397 hb; replace HB := Aside0.mk (below_step (zw3_ HB GE395 GE396 GE397) hb); (try clear hb); (try clear ho0); (try clear ho1)) | ((with_reducible refine gate_dst (N := 14) rfl ?_); (try (refine gate_guard (by rfl) ?_; dsimp only)); refine box_event ?hg (N := 14) ?hd (cs := #[.slice none 0 0, .slice none 0 0]) (t := 25) ?hr ?_; (case hd => rfl); (case hg => rfl); (case hr => first | (go_simp; done) | (go_simp; rfl)); intro gb420 hg w89 hbox hb; replace HO409 := zy_ HO409 hb; replace HO413 := zy_ HO413 hb; replace HO416 := zy_ HO416 hb; replace HO419 := zy_ HO419 hb; have BK420 := Aside0.mk (hbox); have GW420 := Aside0.mk (zs_ hg (zw3_ HB GE395 GE396 GE397)); have GE420 := Aside0.mk (zs_ hg (zw3_ HB GE395 GE396 GE397)); replace HB := Aside0.mk (below_step (zw3_ HB GE395 GE396 GE397) hb); have NB395_420 := Aside0.mk (zn_ hg BK395); have NB420_395 := Aside0.mk (zm_ hg BK395); replace BK395 := za_ BK395 hb; have NB396_420 := Aside0.mk (zn_ hg BK396); have NB420_396 := Aside0.mk (zm_ hg BK396); replace BK396 := za_ BK396 hb; have NB397_420 := Aside0.mk (zn_ hg BK397); have NB420_397 := Aside0.mk (zm_ hg BK397); replace BK397 := za_ BK397 hb; clear hb hbox hg; obtain ⟨Ao90, co90, eo90⟩ := Kd.R_slice HO416.out; subst eo90; have hnb91 := NB420_395.out; have hnc91 := NB395_420.out; have hnb92 := NB420_396.out; have hnc92 := NB396_420.out; have hnb93 := NB420_397.out; have hnc93 := NB397_420.out; have hcz94_0 := zx_ (v := .slice none 0 0) BK420 0; have hcz94_1 := zx_ (v := .slice none 0 0) BK420 1; have hfz94_0 := blk_frozen BK420.out 0; have hfz94_1 := blk_frozen BK420.out 1; obtain ⟨Ao95, co95, eo95⟩ := Kd.R_slice HO419.out; subst eo95))
     go_loopg [15] kj58 (fun kq v15 w' => ∃ (x15_3 : Int) (x421001_3 : List Int) (u421001 : Value), v15 = .int .i64 x15_3 ∧ Aside0 (carouselref5_BackKernel.l0 kq a2 a3 (rd l0_0 0) (rd l0_0 1) (rd l1_0 0) (rd l1_0 1) x15_3 l0_0 l0_1 l1_0 l1_1 t414 x421001_3 = some (r1, r2, r3)) ∧ Aside0 (kq ≤ kj58) ∧ Aside0 (Kd.R (Kd.int .i64) 3 w' w.heap.size (fun _ => True) (.slice Ao90 t414.length co90) t414) ∧ Aside0 (Kd.R (Kd.int .i64) 33 w' w.heap.size (fun _ => True) u421001 x421001_3) ∧ Aside0 (w'.heap[gb395]? = some (.cells #[(.slice (some ad403) l0_0.length c0_0), (.slice A0_1 l0_1.length c0_1)] 25 (0, 0))) ∧ Aside0 (w'.heap[gb396]? = some (.cells #[(.slice (some ad405) l1_0.length c1_0), (.slice A1_1 l1_1.length c1_1)] 25 (0, 0))) ∧ Aside0 (w'.heap[gb397]? = some (.cells #[(.slice none 0 0), (.slice none 0 0)] 25 (0, 0))) ∧ Aside0 (w'.heap[gb420]? = some (.cells #[(.slice Ao90 t414.length co90), u421001] 25 (0, 0))) ∧ Aside0 (Below w.heap.size w w'))
     case atStart => exact ⟨(0), (t417), (.slice Ao95 t417.length co95), z1_, H', ⟨Nat.le_refl _⟩, ⟨zr_ (Kd.R_mono (Kd.R_far (p := ⟨gb420, 1, none⟩) (Kd.R_far (p := ⟨gb420, 0, none⟩) (Kd.R_types HO416.out BK420.out (by decide)) (fun _ hk => hk.2) (.slice Ao90 t414.length co90)) (fun _ hk => hk.2) (.slice Ao95 t417.length co95)) (fun _ hk => trivial))⟩, ⟨zr_ (Kd.R_mono (Kd.R_far (p := ⟨gb420, 1, none⟩) (Kd.R_far (p := ⟨gb420, 0, none⟩) (Kd.R_types HO419.out BK420.out (by decide)) (fun _ hk => hk.2) (.slice Ao90 t414.length co90)) (fun _ hk => hk.2) (.slice Ao95 t417.length co95)) (fun _ hk => trivial))⟩, ⟨zv1_ BK395 NB395_420⟩, ⟨zv1_ BK396 NB396_420⟩, ⟨zv1_ BK397 NB397_420⟩, ⟨zo2_ BK420⟩, ⟨zw4_ HB GE395 GE396 GE397 GE420⟩⟩
     case round =>
      clear H'
      try clear c1
      try clear p2
      try clear c3
      try clear p4
      try clear q4
      try clear hx4
      try clear qi4
      try clear c6
      try clear p6
      try clear c7
      try clear c9
      try clear c33
      try clear c34
      try clear p40
      try clear q40
      try clear hx40
      try clear qi40
      try clear c60
      try clear c60b0
      try clear c60b1
      try clear c61
      try clear c61b0
      try clear c61b1
      try clear c62
      try clear p64
      try clear c65
      try clear c70
      try clear c71
      try clear c72
      try clear c74
      try clear c74b0
      try clear c74b1
      try clear c75
      try clear c75b0
      try clear c75b1
      try clear c76
      try clear c76b0
      try clear c76b1
      try clear c77
      try clear c77b0
      try clear c77b1
      try clear c79
      try clear c91
      try clear c92
      try clear c93
      try clear hcz73_0
      try clear hcz73_1
      try clear hcz94_0
      try clear hcz94_1
      try clear hfz73_0
      try clear hfz73_1
      try clear hfz94_0
      try clear hfz94_1
      try clear hx403_0
      try clear hx404_0
      try clear hx405_0
      try clear hx406_0
      try clear p2
      try clear p403
      try clear p404
      try clear p405
      try clear p406
      try clear p6
      try clear p64
      try clear q403
      try clear q404
      try clear q405
      try clear q406
      obtain ⟨x15_3, x421001_3, u421001, rfl, HA, HK3, HO_421000, HO_421001, BK395, BK396, BK397, BK420, HB⟩ := hrel
      cases gk with
      | zero => exact absurd HA.out (by simp [carouselref5_BackKernel.l0])
      | succ k3 =>
       have H := HA.out
       clear HA
       simp only [carouselref5_BackKernel.l0] at H
       by_cases c96 : x15_3 < (rd l0_0 0)
       rotate_left
       ·rw [if_neg c96] at H
        have c96b0 : decide (x15_3 < (rd l0_0 0)) = false := decide_eq_false c96
        clear c96
        simp only [Option.some.injEq, Prod.mk.injEq] at H
        obtain ⟨rfl, rfl, rfl⟩ := H
        have hnb132 := NB420_395.out
        have hnc132 := NB395_420.out
        have hnb133 := NB420_396.out
        have hnc133 := NB396_420.out
        have hnb134 := NB420_397.out
        have hnc134 := NB397_420.out
        have hcz135_0 := zx_ (v := .slice Ao90 t414.length co90) BK420 0
        have hcz135_1 := zx_ (v := u421001) BK420 1
        have hfz135_0 := blk_frozen BK420.out 0
        have hfz135_1 := blk_frozen BK420.out 1
        have hnb136 := NB397_395.out
        have hnc136 := NB395_397.out
        have hnb137 := NB397_396.out
        have hnc137 := NB396_397.out
        have hcz138_0 := zx_ (v := .slice none 0 0) BK397 0
        have hcz138_1 := zx_ (v := .slice none 0 0) BK397 1
        have hfz138_0 := blk_frozen BK397.out 0
        have hfz138_1 := blk_frozen BK397.out 1
        obtain ⟨Ao139, co139, eo139⟩ := Kd.R_slice HO_421001.out
        subst eo139
        go_wp2
        refine bodyPost_ret (results_ct rfl _ _ gb397 25 #[.slice Ao90 t414.length co90, .slice Ao139 x421001_3.length co139] (0, 0) _ rfl (zo2_ BK397) Try.underlying25 rfl (by kernel_rfl)) rfl ?_
        exact ⟨_, _, z0_, zr_ (Kd.R_mono (Kd.R_far (p := ⟨gb397, 1, none⟩) (Kd.R_far (p := ⟨gb397, 0, none⟩) (Kd.R_types HO_421000.out BK397.out (by decide)) (fun _ hk => hk.2) (.slice Ao90 t414.length co90)) (fun _ hk => hk.2) (.slice Ao139 x421001_3.length co139)) (fun _ hk => trivial)), zr_ (Kd.R_mono (Kd.R_far (p := ⟨gb397, 1, none⟩) (Kd.R_far (p := ⟨gb397, 0, none⟩) (Kd.R_types HO_421001.out BK397.out (by decide)) (fun _ hk => hk.2) (.slice Ao90 t414.length co90)) (fun _ hk => hk.2) (.slice Ao139 x421001_3.length co139)) (fun _ hk => trivial)), zw4_ HB GE395 GE396 GE397 GE420⟩
       rw [if_pos c96] at H
       have c96b0 : decide (x15_3 < (rd l0_0 0)) = true := decide_eq_true c96
       clear c96
       have H' := Aside0.mk H
       clear H
       go_wp2
       go_loopg [16] k3 (fun kq v16 w' => ∃ (x16_4 : Int) (x421001_4 : List Int) (u421001 : Value), v16 = .int .i64 x16_4 ∧ Aside0 (carouselref5_BackKernel.l1 kq a2 a3 (rd l0_0 0) (rd l0_0 1) (rd l1_0 0) (rd l1_0 1) x15_3 x16_4 l0_0 l0_1 l1_0 l1_1 t414 x421001_4 = some (r1, r2, r3)) ∧ Aside0 (kq ≤ k3) ∧ Aside0 (Kd.R (Kd.int .i64) 3 w' w.heap.size (fun _ => True) (.slice Ao90 t414.length co90) t414) ∧ Aside0 (Kd.R (Kd.int .i64) 33 w' w.heap.size (fun _ => True) u421001 x421001_4) ∧ Aside0 (w'.heap[gb395]? = some (.cells #[(.slice (some ad403) l0_0.length c0_0), (.slice A0_1 l0_1.length c0_1)] 25 (0, 0))) ∧ Aside0 (w'.heap[gb396]? = some (.cells #[(.slice (some ad405) l1_0.length c1_0), (.slice A1_1 l1_1.length c1_1)] 25 (0, 0))) ∧ Aside0 (w'.heap[gb397]? = some (.cells #[(.slice none 0 0), (.slice none 0 0)] 25 (0, 0))) ∧ Aside0 (w'.heap[gb420]? = some (.cells #[(.slice Ao90 t414.length co90), u421001] 25 (0, 0))) ∧ Aside0 (Below w.heap.size w w'))
       case atStart => exact ⟨(0), (x421001_3), (u421001), z1_, H', ⟨Nat.le_refl _⟩, ⟨zr_ HO_421000.out⟩, ⟨zr_ HO_421001.out⟩, ⟨zb_ BK395⟩, ⟨zb_ BK396⟩, ⟨zb_ BK397⟩, ⟨zb_ BK420⟩, ⟨zw4_ HB GE395 GE396 GE397 GE420⟩⟩
       case round =>
        clear H'
        try clear c1
        try clear p2
        try clear c3
        try clear p4
        try clear q4
        try clear hx4
        try clear qi4
        try clear c6
        try clear p6
        try clear c7
        try clear c9
        try clear c33
        try clear c34
        try clear p40
        try clear q40
        try clear hx40
        try clear qi40
        try clear c60
        try clear c60b0
        try clear c60b1
        try clear c61
        try clear c61b0
        try clear c61b1
        try clear c62
        try clear p64
        try clear c65
        try clear c70
        try clear c71
        try clear c72
        try clear c74
        try clear c74b0
        try clear c74b1
        try clear c75
        try clear c75b0
        try clear c75b1
        try clear c76
        try clear c76b0
        try clear c76b1
        try clear c77
        try clear c77b0
        try clear c77b1
        try clear c79
        try clear c91
        try clear c92
        try clear c93
        try clear c96
        try clear c96b0
        try clear hcz73_0
        try clear hcz73_1
        try clear hcz94_0
        try clear hcz94_1
        try clear hfz73_0
        try clear hfz73_1
        try clear hfz94_0
        try clear hfz94_1
        try clear hx403_0
        try clear hx404_0
        try clear hx405_0
        try clear hx406_0
        try clear p2
        try clear p4
        try clear p40
        try clear p403
        try clear p404
        try clear p405
        try clear p406
        try clear p6
        try clear p64
        try clear q4
        try clear q40
        try clear q403
        try clear q404
        try clear q405
        try clear q406
        obtain ⟨x16_4, x421001_4, u421001, rfl, HA, HK4, HO_421000, HO_421001, BK395, BK396, BK397, BK420, HB⟩ := hrel
        cases gk with
        | zero => exact absurd HA.out (by simp [carouselref5_BackKernel.l1])
        | succ k4 =>
         have H := HA.out
         clear HA
         simp only [carouselref5_BackKernel.l1] at H
         by_cases c97 : x16_4 < (rd l1_0 0)
         rotate_left
         ·rw [if_neg c97] at H
          have c97b0 : decide (x16_4 < (rd l1_0 0)) = false := decide_eq_false c97
          clear c97
          have H' := Aside0.mk H
          clear H
          go_wp2
          go_roundg k4
          case measure => have := HJ4.out; have := HJ58.out; have := HK3.out; have := HK4.out; omega
          case rel => exact ⟨(wrap64 (x15_3 + 1)), (x421001_4), (u421001), z1_, H', ⟨by have := HJ4.out; have := HJ58.out; have := HK3.out; have := HK4.out; omega⟩, ⟨zr_ HO_421000.out⟩, ⟨zr_ HO_421001.out⟩, ⟨zb_ BK395⟩, ⟨zb_ BK396⟩, ⟨zb_ BK397⟩, ⟨zb_ BK420⟩, ⟨zw4_ HB GE395 GE396 GE397 GE420⟩⟩
         rw [if_pos c97] at H
         have c97b0 : decide (x16_4 < (rd l1_0 0)) = true := decide_eq_true c97
         clear c97
         have H' := Aside0.mk H
         clear H
         go_wp2
         go_loopg [17] k4 (fun kq v17 w' => ∃ (x17_5 : Int) (x421001_5 : List Int) (u421001 : Value), v17 = .int .i64 x17_5 ∧ Aside0 (carouselref5_BackKernel.l2 kq a2 a3 (rd l0_0 0) (rd l0_0 1) (rd l1_0 0) (rd l1_0 1) x15_3 x16_4 x17_5 l0_0 l0_1 l1_0 l1_1 t414 x421001_5 = some (r1, r2, r3)) ∧ Aside0 (kq ≤ k4) ∧ Aside0 (Kd.R (Kd.int .i64) 3 w' w.heap.size (fun _ => True) (.slice Ao90 t414.length co90) t414) ∧ Aside0 (Kd.R (Kd.int .i64) 33 w' w.heap.size (fun _ => True) u421001 x421001_5) ∧ Aside0 (w'.heap[gb395]? = some (.cells #[(.slice (some ad403) l0_0.length c0_0), (.slice A0_1 l0_1.length c0_1)] 25 (0, 0))) ∧ Aside0 (w'.heap[gb396]? = some (.cells #[(.slice (some ad405) l1_0.length c1_0), (.slice A1_1 l1_1.length c1_1)] 25 (0, 0))) ∧ Aside0 (w'.heap[gb397]? = some (.cells #[(.slice none 0 0), (.slice none 0 0)] 25 (0, 0))) ∧ Aside0 (w'.heap[gb420]? = some (.cells #[(.slice Ao90 t414.length co90), u421001] 25 (0, 0))) ∧ Aside0 (Below w.heap.size w w'))
         case atStart => exact ⟨(0), (x421001_4), (u421001), z1_, H', ⟨Nat.le_refl _⟩, ⟨zr_ HO_421000.out⟩, ⟨zr_ HO_421001.out⟩, ⟨zb_ BK395⟩, ⟨zb_ BK396⟩, ⟨zb_ BK397⟩, ⟨zb_ BK420⟩, ⟨zw4_ HB GE395 GE396 GE397 GE420⟩⟩
         case round =>
          clear H'
          try clear c1
          try clear p2
          try clear c3
          try clear p4
          try clear q4
          try clear hx4
          try clear qi4
          try clear c6
          try clear p6
          try clear c7
          try clear c9
          try clear c33
          try clear c34
          try clear p40
          try clear q40
          try clear hx40
          try clear qi40
          try clear c60
          try clear c60b0
          try clear c60b1
          try clear c61
          try clear c61b0
          try clear c61b1
          try clear c62
          try clear p64
          try clear c65
          try clear c70
          try clear c71
          try clear c72
          try clear c74
          try clear c74b0
          try clear c74b1
          try clear c75
          try clear c75b0
          try clear c75b1
          try clear c76
          try clear c76b0
          try clear c76b1
          try clear c77
          try clear c77b0
          try clear c77b1
          try clear c79
          try clear c91
          try clear c92
          try clear c93
          try clear c96
          try clear c96b0
          try clear c97
          try clear c97b0
          try clear hcz73_0
          try clear hcz73_1
          try clear hcz94_0
          try clear hcz94_1
          try clear hfz73_0
          try clear hfz73_1
          try clear hfz94_0
          try clear hfz94_1
          try clear hx403_0
          try clear hx404_0
          try clear hx405_0
          try clear hx406_0
          try clear p2
          try clear p4
          try clear p40
          try clear p403
          try clear p404
          try clear p405
          try clear p406
          try clear p6
          try clear p64
          try clear q4
          try clear q40
          try clear q403
          try clear q404
          try clear q405
          try clear q406
          obtain ⟨x17_5, x421001_5, u421001, rfl, HA, HK5, HO_421000, HO_421001, BK395, BK396, BK397, BK420, HB⟩ := hrel
          cases gk with
          | zero => exact absurd HA.out (by simp [carouselref5_BackKernel.l2])
          | succ k5 =>
           have H := HA.out
           clear HA
           simp only [carouselref5_BackKernel.l2] at H
           by_cases c98 : x17_5 < a3
           rotate_left
           ·rw [if_neg c98] at H
            have c98b0 : decide (x17_5 < a3) = false := decide_eq_false c98
            clear c98
            have H' := Aside0.mk H
            clear H
            go_wp2
            go_roundg k5
            case measure => have := HJ4.out; have := HJ58.out; have := HK3.out; have := HK4.out; have := HK5.out; omega
            case rel => exact ⟨(wrap64 (x16_4 + 1)), (x421001_5), (u421001), z1_, H', ⟨by have := HJ4.out; have := HJ58.out; have := HK3.out; have := HK4.out; have := HK5.out; omega⟩, ⟨zr_ HO_421000.out⟩, ⟨zr_ HO_421001.out⟩, ⟨zb_ BK395⟩, ⟨zb_ BK396⟩, ⟨zb_ BK397⟩, ⟨zb_ BK420⟩, ⟨zw4_ HB GE395 GE396 GE397 GE420⟩⟩
           rw [if_pos c98] at H
           have c98b0 : decide (x17_5 < a3) = true := decide_eq_true c98
           clear c98
           have H' := Aside0.mk H
           clear H
           go_wp2_with (first | ((with_reducible refine gate_dst (N := 18) rfl ?_); (try (refine gate_guard (by rfl) ?_; dsimp only)); refine box_event ?hg (N := 18) ?hd (cs := #[.bool false, .int .u64 0, .int .u64 0, .int .u64 0, .int .u64 0]) (t := 61) ?hr ?_; (case hd => rfl); (case hg => rfl); (case hr => first | (go_simp; done) | (go_simp; rfl)); intro gb421 hg w99 hbox hb; replace HO_421000 := zy_ HO_421000 hb; replace HO_421001 := zy_ HO_421001 hb; have BK421 := Aside0.mk (hbox); have GW421 := Aside0.mk (zs_ hg (zw4_ HB GE395 GE396 GE397 GE420)); have GE421 := Aside0.mk (zs_ hg (zw4_ HB GE395 GE396 GE397 GE420)); replace HB := Aside0.mk (below_step (zw4_ HB GE395 GE396 GE397 GE420) hb); have NB395_421 := Aside0.mk (zn_ hg BK395); have NB421_395 := Aside0.mk (zm_ hg BK395); replace BK395 := za_ BK395 hb; have NB396_421 := Aside0.mk (zn_ hg BK396); have NB421_396 := Aside0.mk (zm_ hg BK396); replace BK396 := za_ BK396 hb; have NB397_421 := Aside0.mk (zn_ hg BK397); have NB421_397 := Aside0.mk (zm_ hg BK397); replace BK397 := za_ BK397 hb; have NB420_421 := Aside0.mk (zn_ hg BK420); have NB421_420 := Aside0.mk (zm_ hg BK420); replace BK420 := za_ BK420 hb; clear hb hbox hg; have hnb100 := NB421_395.out; have hnc100 := NB395_421.out; have hnb101 := NB421_396.out; have hnc101 := NB396_421.out; have hnb102 := NB421_397.out; have hnc102 := NB397_421.out; have hnb103 := NB421_420.out; have hnc103 := NB420_421.out; have hcz104_0 := zx_ (v := .bool false) BK421 0; have hcz104_1 := zx_ (v := .int .u64 0) BK421 1; have hcz104_2 := zx_ (v := .int .u64 0) BK421 2; have hcz104_3 := zx_ (v := .int .u64 0) BK421 3; have hcz104_4 := zx_ (v := .int .u64 0) BK421 4; have hfz104_0 := blk_frozen BK421.out 0; have hfz104_1 := blk_frozen BK421.out 1; have hfz104_2 := blk_frozen BK421.out 2; have hfz104_3 := blk_frozen BK421.out 3; have hfz104_4 := blk_frozen BK421.out 4))
           go_loopg [19] k5 (fun kq v19 w' => ∃ (x19_6 : Int) (x422000_6 : Bool) (x422001_6 : Int) (x422002_6 : Int) (x422003_6 : Int) (x422004_6 : Int), v19 = .int .i64 x19_6 ∧ Aside0 (carouselref5_BackKernel.l3 kq a2 a3 (rd l0_0 0) (rd l0_0 1) (rd l1_0 0) (rd l1_0 1) x15_3 x16_4 x17_5 x19_6 l0_0 l0_1 l1_0 l1_1 t414 x421001_5 x422000_6 x422001_6 x422002_6 x422003_6 x422004_6 = some (r1, r2, r3)) ∧ Aside0 (kq ≤ k5) ∧ Aside0 (Kd.R (Kd.int .i64) 3 w' w.heap.size (fun _ => True) (.slice Ao90 t414.length co90) t414) ∧ Aside0 (Kd.R (Kd.int .i64) 33 w' w.heap.size (fun _ => True) u421001 x421001_5) ∧ Aside0 (w'.heap[gb395]? = some (.cells #[(.slice (some ad403) l0_0.length c0_0), (.slice A0_1 l0_1.length c0_1)] 25 (0, 0))) ∧ Aside0 (w'.heap[gb396]? = some (.cells #[(.slice (some ad405) l1_0.length c1_0), (.slice A1_1 l1_1.length c1_1)] 25 (0, 0))) ∧ Aside0 (w'.heap[gb397]? = some (.cells #[(.slice none 0 0), (.slice none 0 0)] 25 (0, 0))) ∧ Aside0 (w'.heap[gb420]? = some (.cells #[(.slice Ao90 t414.length co90), u421001] 25 (0, 0))) ∧ Aside0 (w'.heap[gb421]? = some (.cells #[.bool x422000_6, .int .u64 x422001_6, .int .u64 x422002_6, .int .u64 x422003_6, .int .u64 x422004_6] 61 (0, 0))) ∧ Aside0 (Below w.heap.size w w'))
           case atStart => exact ⟨(0), (false), (0), (0), (0), (0), z1_, H', ⟨Nat.le_refl _⟩, ⟨zr_ (Kd.R_mono (Kd.R_far (p := ⟨gb421, 4, none⟩) (Kd.R_far (p := ⟨gb421, 3, none⟩) (Kd.R_far (p := ⟨gb421, 2, none⟩) (Kd.R_far (p := ⟨gb421, 1, none⟩) (Kd.R_far (p := ⟨gb421, 0, none⟩) (Kd.R_types HO_421000.out BK421.out (by decide)) (fun _ hk => hk.2) (.bool false)) (fun _ hk => hk.2) (.int .u64 0)) (fun _ hk => hk.2) (.int .u64 0)) (fun _ hk => hk.2) (.int .u64 0)) (fun _ hk => hk.2) (.int .u64 0)) (fun _ hk => trivial))⟩, ⟨zr_ (Kd.R_mono (Kd.R_far (p := ⟨gb421, 4, none⟩) (Kd.R_far (p := ⟨gb421, 3, none⟩) (Kd.R_far (p := ⟨gb421, 2, none⟩) (Kd.R_far (p := ⟨gb421, 1, none⟩) (Kd.R_far (p := ⟨gb421, 0, none⟩) (Kd.R_types HO_421001.out BK421.out (by decide)) (fun _ hk => hk.2) (.bool false)) (fun _ hk => hk.2) (.int .u64 0)) (fun _ hk => hk.2) (.int .u64 0)) (fun _ hk => hk.2) (.int .u64 0)) (fun _ hk => hk.2) (.int .u64 0)) (fun _ hk => trivial))⟩, ⟨zv1_ BK395 NB395_421⟩, ⟨zv1_ BK396 NB396_421⟩, ⟨zv1_ BK397 NB397_421⟩, ⟨zv1_ BK420 NB420_421⟩, ⟨zo5_ BK421⟩, ⟨zw5_ HB GE395 GE396 GE397 GE420 GE421⟩⟩
           case round =>
            clear H'
            try clear c1
            try clear p2
            try clear c3
            try clear p4
            try clear q4
            try clear hx4
            try clear qi4
            try clear c6
            try clear p6
            try clear c7
            try clear c9
            try clear c10
            try clear c33
            try clear c34
            try clear p40
            try clear q40
            try clear hx40
            try clear qi40
            try clear c60
            try clear c60b0
            try clear c60b1
            try clear c61
            try clear c61b0
            try clear c61b1
            try clear c62
            try clear p64
            try clear c65
            try clear c70
            try clear c71
            try clear c72
            try clear c74
            try clear c74b0
            try clear c74b1
            try clear c75
            try clear c75b0
            try clear c75b1
            try clear c76
            try clear c76b0
            try clear c76b1
            try clear c77
            try clear c77b0
            try clear c77b1
            try clear c79
            try clear c91
            try clear c92
            try clear c93
            try clear c96
            try clear c96b0
            try clear c97
            try clear c97b0
            try clear c98
            try clear c98b0
            try clear c100
            try clear c101
            try clear c102
            try clear c103
            try clear hcz104_0
            try clear hcz104_1
            try clear hcz104_2
            try clear hcz104_3
            try clear hcz104_4
            try clear hcz73_0
            try clear hcz73_1
            try clear hcz94_0
            try clear hcz94_1
            try clear hfz104_0
            try clear hfz104_1
            try clear hfz104_2
            try clear hfz104_3
            try clear hfz104_4
            try clear hfz73_0
            try clear hfz73_1
            try clear hfz94_0
            try clear hfz94_1
            try clear hx403_0
            try clear hx404_0
            try clear hx405_0
            try clear hx406_0
            try clear p2
            try clear p4
            try clear p40
            try clear p403
            try clear p404
            try clear p405
            try clear p406
            try clear p6
            try clear p64
            try clear q4
            try clear q40
            try clear q403
            try clear q404
            try clear q405
            try clear q406
            obtain ⟨x19_6, x422000_6, x422001_6, x422002_6, x422003_6, x422004_6, rfl, HA, HK6, HO_421000, HO_421001, BK395, BK396, BK397, BK420, BK421, HB⟩ := hrel
            cases gk with
            | zero => exact absurd HA.out (by simp [carouselref5_BackKernel.l3])
            | succ k6 =>
             have H := HA.out
             clear HA
             simp only [carouselref5_BackKernel.l3] at H
             by_cases c105 : x19_6 < (rd l0_0 1)
             rotate_left
             ·rw [if_neg c105] at H
              have c105b0 : decide (x19_6 < (rd l0_0 1)) = false := decide_eq_false c105
              clear c105
              replace H := Option.bind_eq_some_iff.mp H
              obtain ⟨⟨t434, t435, t436, t437, t438⟩, A1220, H⟩ := H
              (try dsimp only at H)
              have A122 := Aside0.mk A1220
              clear A1220
              replace H := Option.bind_eq_some_iff.mp H
              obtain ⟨t439, A1230, H⟩ := H
              (try dsimp only at H)
              have A123 := Aside0.mk A1230
              clear A1230
              obtain ⟨ji124, hji124⟩ : ∃ j_ : Int, (wrap64 ((wrap64 ((wrap64 ((wrap64 (x15_3 * (rd l1_0 0))) + x16_4)) * a3)) + x17_5)) = j_ := ⟨_, rfl⟩
              replace H : (if 0 ≤ (ji124) then (if (ji124) < (x421001_5.length : Int) then (carouselref5_BackKernel.l2 k6 a2 a3 (rd l0_0 0) (rd l0_0 1) (rd l1_0 0) (rd l1_0 1) x15_3 x16_4 (wrap64 (x17_5 + 1)) l0_0 l0_1 l1_0 l1_1 t414 (x421001_5.set ((ji124) : Int).toNat t439)) else (none)) else (none)) = some (r1, r2, r3) := by first | (rw [hji124] at H; exact H) | (simp only [hji124] at H ⊢; exact H)
              (try rw [hji124] at A122)
              (try rw [hji124] at A123)
              have hji124w : (IntKind.i64.wrap ((wrap64 ((wrap64 ((wrap64 (x15_3 * (rd l1_0 0))) + x16_4)) * a3)) + x17_5)) = ji124 := (i64_w _).trans hji124
              by_cases c125 : 0 ≤ (ji124)
              rotate_left
              ·rw [if_neg c125] at H
               exact absurd H (by simp)
              rw [if_pos c125] at H
              have c125b0 : decide (0 ≤ (ji124)) = true := decide_eq_true c125
              clear c125
              by_cases c126 : (ji124) < (x421001_5.length : Int)
              rotate_left
              ·rw [if_neg c126] at H
               exact absurd H (by simp)
              rw [if_pos c126] at H
              have c126b0 : decide ((ji124) < (x421001_5.length : Int)) = true := decide_eq_true c126
              clear c126
              obtain ⟨y440, hy440⟩ : ∃ y_ : List Int, y_ = (x421001_5.set ((ji124) : Int).toNat t439) := ⟨_, rfl⟩
              replace H : (carouselref5_BackKernel.l2 k6 a2 a3 (rd l0_0 0) (rd l0_0 1) (rd l1_0 0) (rd l1_0 1) x15_3 x16_4 (wrap64 (x17_5 + 1)) l0_0 l0_1 l1_0 l1_1 t414 y440) = some (r1, r2, r3) := by first | (rw [hy440]; with_reducible exact H) | (have H2_ := (Option.bind_some _ _).symm.trans H; rw [hy440]; with_reducible exact H2_) | (have H2_ := (Option.bind_some _ _).symm.trans H; with_reducible exact H2_) | with_reducible exact H | (rw [hy440]; exact H) | exact H
              have Ny440 := Aside0.mk hy440
              clear hy440
              have H' := Aside0.mk H
              clear H
              try go_wp2
              replace HO_421000 := Aside0.mk (Kd.R_drew HO_421000.out)
              replace HO_421001 := Aside0.mk (Kd.R_drew HO_421001.out)
              replace BK395 := Aside0.mk (blk_drew BK395.out)
              replace BK396 := Aside0.mk (blk_drew BK396.out)
              replace BK397 := Aside0.mk (blk_drew BK397.out)
              replace BK420 := Aside0.mk (blk_drew BK420.out)
              replace BK421 := Aside0.mk (blk_drew BK421.out)
              replace HB := Aside0.mk (below_drew1 HB.out)
              refine start_ (n := 16) (S := fun w' => w'.cell? ⟨gb420, 0, none⟩ = some (.slice Ao90 t414.length co90) ∧ w'.cell? ⟨gb420, 1, none⟩ = some (u421001) ∧ w'.cell? ⟨gb421, 0, none⟩ = some (.bool x422000_6) ∧ w'.cell? ⟨gb421, 1, none⟩ = some (.int .u64 x422001_6) ∧ w'.cell? ⟨gb421, 2, none⟩ = some (.int .u64 x422002_6) ∧ w'.cell? ⟨gb421, 3, none⟩ = some (.int .u64 x422003_6) ∧ w'.cell? ⟨gb421, 4, none⟩ = some (.int .u64 x422004_6)) (ds := [15]) #[false, false, false, false, false, false, false, false, false, false, false, false, false, false, false, false] (by kernel_rfl) rfl rfl ⟨(blk_cell BK420.out 0).trans rfl, (blk_cell BK420.out 1).trans rfl, (blk_cell BK421.out 0).trans rfl, (blk_cell BK421.out 1).trans rfl, (blk_cell BK421.out 2).trans rfl, (blk_cell BK421.out 3).trans rfl, (blk_cell BK421.out 4).trans rfl⟩ (fun hHeld => ?_); refine with_tabW carouselref5_BackKernel.tab23 carouselref5_BackKernel.bits23 (fun HT_ HW_ => ?_)
              generalize wr.drew = w128 at HO_421000 HO_421001 BK395 BK396 BK397 BK420 BK421 HB hHeld ⊢
              refine yp_ ?_ 0 154
              refine yp_ ?_ 2 156
              refine yp_ ?_ 3 157
              refine yp_ ?_ 4 158
              refine yp_ ?_ 5 159
              refine yp_ ?_ 6 160
              refine yp_ ?_ 7 161
              refine yp_ ?_ 8 162
              refine yp_ ?_ 9 163
              refine yp_ ?_ 10 164
              refine yt7_ ?_ 1 155
              refine yt7_ ?_ 11 165
              refine yo_ 12 (some 166) (fun K hK => ?_)
              refine yg_ Try.func38 #[.agg #[.bool x422000_6, .int .u64 x422001_6, .int .u64 x422002_6, .int .u64 x422003_6, .int .u64 x422004_6], .int .i64 32] ?_
              with_reducible refine (carouselref1_Halved.calls x422000_6 x422001_6 x422002_6 x422003_6 x422004_6 32 t434 t435 t436 t437 t438 _ A122.out).mono ?_
              rintro e w129 ⟨rfl, hb⟩
              refine ⟨_, rfl, ?_⟩
              replace HO_421000 := zy_ HO_421000 hb
              replace HO_421001 := zy_ HO_421001 hb
              replace BK395 := za_ BK395 hb
              replace BK396 := za_ BK396 hb
              replace BK397 := za_ BK397 hb
              replace BK420 := za_ BK420 hb
              replace BK421 := za_ BK421 hb
              replace HB := Aside0.mk (below_step (zw5_ HB GE395 GE396 GE397 GE420 GE421) hb)
              (try clear hb)
              (try clear hb2)
              (try clear hk)
              (try clear hi)
              refine hK.out _ _ ⟨zx_ BK420 0, zx_ BK420 1, zx_ BK421 0, zx_ BK421 1, zx_ BK421 2, zx_ BK421 3, zx_ BK421 4⟩ (fun hHeld => ?_)
              clear hK K
              refine zq_ (some 166) (h := ?_)
              refine yo_ 13 (some 167) (fun K hK => ?_)
              refine yg_ Try.func37 #[.agg #[.bool t434, .int .u64 t435, .int .u64 t436, .int .u64 t437, .int .u64 t438]] ?_
              with_reducible refine (carouselref1_Held.calls k6 t434 t435 t436 t437 t438 t439 _ A123.out).mono ?_
              rintro e w130 ⟨rfl, hb⟩
              refine ⟨_, rfl, ?_⟩
              replace HO_421000 := zy_ HO_421000 hb
              replace HO_421001 := zy_ HO_421001 hb
              replace BK395 := za_ BK395 hb
              replace BK396 := za_ BK396 hb
              replace BK397 := za_ BK397 hb
              replace BK420 := za_ BK420 hb
              replace BK421 := za_ BK421 hb
              replace HB := Aside0.mk (below_step (zw5_ HB GE395 GE396 GE397 GE420 GE421) hb)
              (try clear hb)
              (try clear hb2)
              (try clear hk)
              (try clear hi)
              have p127 : 0 ≤ ((ji124) : Int) := of_decide_eq_true (by first | (with_reducible assumption) | assumption)
              have q127 : ((ji124) : Int) < ((x421001_5.length : Int) : Int) := of_decide_eq_true (by first | (with_reducible assumption) | assumption)
              obtain ⟨go127, co127, eo127, gb127, gl127, cl127, HG127⟩ := Kd.R_form HO_421001.out (by omega)
              (first | cases eo127 | (injection eo127 with ea_ en_ ec_; (first | subst ea_ | (injection ea_ with ea_; subst ea_)); subst ec_; clear en_))
              have GB127 := Aside0.mk gb127
              have GG127 := Aside0.mk HG127
              clear gb127 gl127 HG127
              obtain ⟨hx127_0, hf127_0⟩ := Kd.R_celln 0 HO_421001.out ((ji124) : Int) p127 q127
              replace p127 := eq_true p127
              replace q127 := eq_true q127
              have HP131 := Kd.R_putn HO_421001.out ((ji124) : Int) t439
              rw [← Ny440.out] at HP131
              have HQ131 := Aside0.mk HP131
              clear HP131
              refine hK.out _ _ ⟨zx_ BK420 0, zx_ BK420 1, zx_ BK421 0, zx_ BK421 1, zx_ BK421 2, zx_ BK421 3, zx_ BK421 4⟩ (fun hHeld => ?_)
              clear hK K
              refine zq_ (some 167) (h := ?_)
              refine yp_ ?_ 14 168
              refine yl_ 15 none (fun K hK => ?_)
              refine skip_ (w1 := ?_) (by rfl) rfl ?_ ?_
              rotate_left
              ·go_simp
               rfl
              refine hK.out _ _ ?_
              clear hK K
              refine done_ (done_of HT_.out (by kernel_rfl)) ?_
              try go_wp2
              go_roundg k6
              case measure => have := HJ4.out; have := HJ58.out; have := HK3.out; have := HK4.out; have := HK5.out; have := HK6.out; omega
              case rel => exact ⟨(wrap64 (x17_5 + 1)), (y440), (.slice (some ⟨go127, 0, none⟩) x421001_5.length co127), z1_, H', ⟨by have := HJ4.out; have := HJ58.out; have := HK3.out; have := HK4.out; have := HK5.out; have := HK6.out; omega⟩, ⟨zr_ (Kd.R_mono (Kd.R_far (p := ⟨go127, ((ji124) : Int).toNat, none⟩) (Kd.R_types HO_421000.out GG127.out (by decide)) (fun _ hk => hk.2) (.int .i64 t439)) (fun _ hk => trivial))⟩, ⟨zr_ HQ131.out⟩, ⟨by (with_reducible repeat (first | refine blk_drewN ?_ _ | refine blk_drew ?_ | refine blk_alloc ?_ _)); refine blk_far ?_ (by have h_ := Kd.R_ne HO_421001.out BK395.out (by decide); intro e_; exact h_ (by rw [e_]; rfl)) _; (with_reducible repeat (first | refine blk_drewN ?_ _ | refine blk_drew ?_ | refine blk_alloc ?_ _)); exact BK395.out⟩, ⟨by (with_reducible repeat (first | refine blk_drewN ?_ _ | refine blk_drew ?_ | refine blk_alloc ?_ _)); refine blk_far ?_ (by have h_ := Kd.R_ne HO_421001.out BK396.out (by decide); intro e_; exact h_ (by rw [e_]; rfl)) _; (with_reducible repeat (first | refine blk_drewN ?_ _ | refine blk_drew ?_ | refine blk_alloc ?_ _)); exact BK396.out⟩, ⟨by (with_reducible repeat (first | refine blk_drewN ?_ _ | refine blk_drew ?_ | refine blk_alloc ?_ _)); refine blk_far ?_ (by have h_ := Kd.R_ne HO_421001.out BK397.out (by decide); intro e_; exact h_ (by rw [e_]; rfl)) _; (with_reducible repeat (first | refine blk_drewN ?_ _ | refine blk_drew ?_ | refine blk_alloc ?_ _)); exact BK397.out⟩, ⟨by (with_reducible repeat (first | refine blk_drewN ?_ _ | refine blk_drew ?_ | refine blk_alloc ?_ _)); refine blk_far ?_ (by have h_ := Kd.R_ne HO_421001.out BK420.out (by decide); intro e_; exact h_ (by rw [e_]; rfl)) _; (with_reducible repeat (first | refine blk_drewN ?_ _ | refine blk_drew ?_ | refine blk_alloc ?_ _)); exact BK420.out⟩, ⟨by repeat (first | (with_reducible first | exact HB.out | apply below_alloc | apply pw_below_drewN | apply below_drew1 | refine below_set ?_ GB127.out | refine below_set ?_ GE395.out | refine below_set ?_ GE396.out | refine below_set ?_ GE397.out | refine below_set ?_ GE420.out | refine below_set ?_ GE421.out) | exact HB.out)⟩⟩
             rw [if_pos c105] at H
             have c105b0 : decide (x19_6 < (rd l0_0 1)) = true := decide_eq_true c105
             clear c105
             obtain ⟨ji106, hji106⟩ : ∃ j_ : Int, (wrap64 ((wrap64 (x15_3 * (rd l0_0 1))) + x19_6)) = j_ := ⟨_, rfl⟩
             replace H : (if 0 ≤ (ji106) then (if (ji106) < (l0_1.length : Int) then (if 0 ≤ (wrap64 ((wrap64 ((wrap64 (x16_4 * (rd l1_0 1))) + (wrap64 (x19_6 * a2)))) + x17_5)) then (if (wrap64 ((wrap64 ((wrap64 (x16_4 * (rd l1_0 1))) + (wrap64 (x19_6 * a2)))) + x17_5)) < (l1_1.length : Int) then ((carouselref1_Times.f (rd l0_1 (ji106)) (rd l1_1 (wrap64 ((wrap64 ((wrap64 (x16_4 * (rd l1_0 1))) + (wrap64 (x19_6 * a2)))) + x17_5)))).bind fun bt424 => ((carouselref1_Plus.f x422000_6 x422001_6 x422002_6 x422003_6 x422004_6 bt424.1 bt424.2.1 bt424.2.2.1 bt424.2.2.2.1 bt424.2.2.2.2).bind fun bt429 => (carouselref5_BackKernel.l3 k6 a2 a3 (rd l0_0 0) (rd l0_0 1) (rd l1_0 0) (rd l1_0 1) x15_3 x16_4 x17_5 (wrap64 (x19_6 + 1)) l0_0 l0_1 l1_0 l1_1 t414 x421001_5 bt429.1 bt429.2.1 bt429.2.2.1 bt429.2.2.2.1 bt429.2.2.2.2))) else (none)) else (none)) else (none)) else (none)) = some (r1, r2, r3) := by first | (rw [hji106] at H; exact H) | (simp only [hji106] at H ⊢; exact H)
             have hji106w : (IntKind.i64.wrap ((wrap64 (x15_3 * (rd l0_0 1))) + x19_6)) = ji106 := (i64_w _).trans hji106
             by_cases c107 : 0 ≤ (ji106)
             rotate_left
             ·rw [if_neg c107] at H
              exact absurd H (by simp)
             rw [if_pos c107] at H
             have c107b0 : decide (0 ≤ (ji106)) = true := decide_eq_true c107
             clear c107
             by_cases c108 : (ji106) < (l0_1.length : Int)
             rotate_left
             ·rw [if_neg c108] at H
              exact absurd H (by simp)
             rw [if_pos c108] at H
             have c108b0 : decide ((ji106) < (l0_1.length : Int)) = true := decide_eq_true c108
             clear c108
             obtain ⟨ji109, hji109⟩ : ∃ j_ : Int, (wrap64 ((wrap64 ((wrap64 (x16_4 * (rd l1_0 1))) + (wrap64 (x19_6 * a2)))) + x17_5)) = j_ := ⟨_, rfl⟩
             replace H : (if 0 ≤ (ji109) then (if (ji109) < (l1_1.length : Int) then ((carouselref1_Times.f (rd l0_1 (ji106)) (rd l1_1 (ji109))).bind fun bt424 => ((carouselref1_Plus.f x422000_6 x422001_6 x422002_6 x422003_6 x422004_6 bt424.1 bt424.2.1 bt424.2.2.1 bt424.2.2.2.1 bt424.2.2.2.2).bind fun bt429 => (carouselref5_BackKernel.l3 k6 a2 a3 (rd l0_0 0) (rd l0_0 1) (rd l1_0 0) (rd l1_0 1) x15_3 x16_4 x17_5 (wrap64 (x19_6 + 1)) l0_0 l0_1 l1_0 l1_1 t414 x421001_5 bt429.1 bt429.2.1 bt429.2.2.1 bt429.2.2.2.1 bt429.2.2.2.2))) else (none)) else (none)) = some (r1, r2, r3) := by first | (rw [hji109] at H; exact H) | (simp only [hji109] at H ⊢; exact H)
             have hji109w : (IntKind.i64.wrap ((wrap64 ((wrap64 (x16_4 * (rd l1_0 1))) + (wrap64 (x19_6 * a2)))) + x17_5)) = ji109 := (i64_w _).trans hji109
             by_cases c110 : 0 ≤ (ji109)
             rotate_left
             ·rw [if_neg c110] at H
              exact absurd H (by simp)
             rw [if_pos c110] at H
             have c110b0 : decide (0 ≤ (ji109)) = true := decide_eq_true c110
             clear c110
             by_cases c111 : (ji109) < (l1_1.length : Int)
             rotate_left
             ·rw [if_neg c111] at H
              exact absurd H (by simp)
             rw [if_pos c111] at H
             have c111b0 : decide ((ji109) < (l1_1.length : Int)) = true := decide_eq_true c111
             clear c111
             replace H := Option.bind_eq_some_iff.mp H
             obtain ⟨⟨t424, t425, t426, t427, t428⟩, A1120, H⟩ := H
             (try dsimp only at H)
             have A112 := Aside0.mk A1120
             clear A1120
             replace H := Option.bind_eq_some_iff.mp H
             obtain ⟨⟨t429, t430, t431, t432, t433⟩, A1130, H⟩ := H
             (try dsimp only at H)
             have A113 := Aside0.mk A1130
             clear A1130
             have H' := Aside0.mk H
             clear H
             try go_wp2
             replace HO_421000 := Aside0.mk (Kd.R_drew HO_421000.out)
             replace HO_421001 := Aside0.mk (Kd.R_drew HO_421001.out)
             replace BK395 := Aside0.mk (blk_drew BK395.out)
             replace BK396 := Aside0.mk (blk_drew BK396.out)
             replace BK397 := Aside0.mk (blk_drew BK397.out)
             replace BK420 := Aside0.mk (blk_drew BK420.out)
             replace BK421 := Aside0.mk (blk_drew BK421.out)
             replace HB := Aside0.mk (below_drew1 HB.out)
             have p422 : 0 ≤ ((ji106) : Int) := of_decide_eq_true (by first | (with_reducible assumption) | assumption)
             have q422 : (ji106) < (l0_1.length : Int) := of_decide_eq_true (by first | (with_reducible assumption) | assumption)
             obtain ⟨ad422, e422, hx422_0⟩ := Kd.at_int HR0_1.out (ji106) p422 q422
             have hw422_0 := hx422_0
             cases e422
             replace hx422_0 := (HB.out.cell (World.block_lt_of_cell? w _ hx422_0)).trans hx422_0
             replace p422 := eq_true p422
             replace q422 := eq_true q422
             have p423 : 0 ≤ ((ji109) : Int) := of_decide_eq_true (by first | (with_reducible assumption) | assumption)
             have q423 : (ji109) < (l1_1.length : Int) := of_decide_eq_true (by first | (with_reducible assumption) | assumption)
             obtain ⟨ad423, e423, hx423_0⟩ := Kd.at_int HR1_1.out (ji109) p423 q423
             have hw423_0 := hx423_0
             cases e423
             replace hx423_0 := (HB.out.cell (World.block_lt_of_cell? w _ hx423_0)).trans hx423_0
             replace p423 := eq_true p423
             replace q423 := eq_true q423
             refine start_ (n := 26) (S := fun w' => w'.cell? ⟨gb421, 0, none⟩ = some (.bool x422000_6) ∧ w'.cell? ⟨gb421, 1, none⟩ = some (.int .u64 x422001_6) ∧ w'.cell? ⟨gb421, 2, none⟩ = some (.int .u64 x422002_6) ∧ w'.cell? ⟨gb421, 3, none⟩ = some (.int .u64 x422003_6) ∧ w'.cell? ⟨gb421, 4, none⟩ = some (.int .u64 x422004_6) ∧ w'.cell? ⟨gb395, 0, none⟩ = some (.slice (some ad403) l0_0.length c0_0) ∧ w'.cell? ⟨gb395, 1, none⟩ = some (.slice (some ad422) l0_1.length c0_1) ∧ w'.cell? ⟨gb396, 0, none⟩ = some (.slice (some ad405) l1_0.length c1_0) ∧ w'.cell? ⟨gb396, 1, none⟩ = some (.slice (some ad423) l1_1.length c1_1) ∧ w'.cell? (ad422.add ((ji106)).toNat) = some (.int .i64 (rd l0_1 (ji106))) ∧ w'.cell? (ad423.add ((ji109)).toNat) = some (.int .i64 (rd l1_1 (ji109)))) (ds := [25]) #[false, false, false, false, false, false, false, false, false, false, false, false, false, false, false, false, false, false, false, false, false, false, false, false, false, false] (by kernel_rfl) rfl rfl ⟨(blk_cell BK421.out 0).trans rfl, (blk_cell BK421.out 1).trans rfl, (blk_cell BK421.out 2).trans rfl, (blk_cell BK421.out 3).trans rfl, (blk_cell BK421.out 4).trans rfl, (blk_cell BK395.out 0).trans rfl, (blk_cell BK395.out 1).trans rfl, (blk_cell BK396.out 0).trans rfl, (blk_cell BK396.out 1).trans rfl, ((HB.out.cell (World.block_lt_of_cell? w _ hw422_0)).trans hw422_0), ((HB.out.cell (World.block_lt_of_cell? w _ hw423_0)).trans hw423_0)⟩ (fun hHeld => ?_); refine with_tabW carouselref5_BackKernel.tab22 carouselref5_BackKernel.bits22 (fun HT_ HW_ => ?_)
             generalize wr.drew = w114 at HO_421000 HO_421001 BK395 BK396 BK397 BK420 BK421 HB hx422_0 hx423_0 hHeld ⊢
             refine yp_ ?_ 1 130
             refine yp_ ?_ 3 132
             refine yp_ ?_ 4 133
             refine yp_ ?_ 5 134
             refine yp_ ?_ 6 135
             refine yp_ ?_ 7 136
             refine yp_ ?_ 10 139
             refine yp_ ?_ 12 141
             refine yp_ ?_ 13 142
             refine yp_ ?_ 14 143
             refine yp_ ?_ 15 144
             refine yp_ ?_ 16 145
             refine yp_ ?_ 17 146
             refine yp_ ?_ 18 147
             refine yp_ ?_ 19 148
             refine yp_ ?_ 20 149
             refine yt11_ ?_ 0 129
             refine yt11_ ?_ 2 131
             refine yp_ ?_ 8 137
             refine yt11_ ?_ 9 138
             refine yt11_ ?_ 11 140
             refine yp_ ?_ 21 150
             refine yt11_ ?_ 22 151
             refine yo_ 23 (some 152) (fun K hK => ?_)
             refine goes_ Try.func36 (by kernel_rfl) rfl #[.int .i64 (rd l0_1 (ji106)), .int .i64 (rd l1_1 (ji109))] (by rfl) rfl rfl (by (try simp only [List.map_toArray, List.map_cons, List.map_nil]); first | done | (simp only [hji106, hji109]; rfl) | rfl | (simp only [List.length_drop, List.length_take]; rfl)) ?_
             with_reducible refine (carouselref1_Times.calls (rd l0_1 (ji106)) (rd l1_1 (ji109)) t424 t425 t426 t427 t428 _ A112.out).mono ?_
             rintro e w115 ⟨rfl, hb⟩
             refine ⟨_, rfl, ?_⟩
             replace HO_421000 := zy_ HO_421000 hb
             replace HO_421001 := zy_ HO_421001 hb
             replace BK395 := za_ BK395 hb
             replace BK396 := za_ BK396 hb
             replace BK397 := za_ BK397 hb
             replace BK420 := za_ BK420 hb
             replace BK421 := za_ BK421 hb
             replace HB := Aside0.mk (below_step (zw5_ HB GE395 GE396 GE397 GE420 GE421) hb)
             (try clear hb)
             (try clear hb2)
             (try clear hk)
             (try clear hi)
             refine hK.out _ _ ⟨(blk_cell BK421.out 0).trans rfl, (blk_cell BK421.out 1).trans rfl, (blk_cell BK421.out 2).trans rfl, (blk_cell BK421.out 3).trans rfl, (blk_cell BK421.out 4).trans rfl, (blk_cell BK395.out 0).trans rfl, (blk_cell BK395.out 1).trans rfl, (blk_cell BK396.out 0).trans rfl, (blk_cell BK396.out 1).trans rfl, ((HB.out.cell (World.block_lt_of_cell? w _ hw422_0)).trans hw422_0), ((HB.out.cell (World.block_lt_of_cell? w _ hw423_0)).trans hw423_0)⟩ (fun hHeld => ?_)
             clear hK K
             refine zq_ (some 152) (h := ?_)
             refine yo_ 24 (some 153) (fun K hK => ?_)
             refine yg_ Try.func35 #[.agg #[.bool x422000_6, .int .u64 x422001_6, .int .u64 x422002_6, .int .u64 x422003_6, .int .u64 x422004_6], .agg #[.bool t424, .int .u64 t425, .int .u64 t426, .int .u64 t427, .int .u64 t428]] ?_
             with_reducible refine (carouselref1_Plus.calls x422000_6 x422001_6 x422002_6 x422003_6 x422004_6 t424 t425 t426 t427 t428 t429 t430 t431 t432 t433 _ A113.out).mono ?_
             rintro e w116 ⟨rfl, hb⟩
             refine ⟨_, rfl, ?_⟩
             replace HO_421000 := zy_ HO_421000 hb
             replace HO_421001 := zy_ HO_421001 hb
             replace BK395 := za_ BK395 hb
             replace BK396 := za_ BK396 hb
             replace BK397 := za_ BK397 hb
             replace BK420 := za_ BK420 hb
             replace BK421 := za_ BK421 hb
             replace HB := Aside0.mk (below_step (zw5_ HB GE395 GE396 GE397 GE420 GE421) hb)
             (try clear hb)
             (try clear hb2)
             (try clear hk)
             (try clear hi)
             refine hK.out _ _ ⟨(blk_cell BK421.out 0).trans rfl, (blk_cell BK421.out 1).trans rfl, (blk_cell BK421.out 2).trans rfl, (blk_cell BK421.out 3).trans rfl, (blk_cell BK421.out 4).trans rfl, (blk_cell BK395.out 0).trans rfl, (blk_cell BK395.out 1).trans rfl, (blk_cell BK396.out 0).trans rfl, (blk_cell BK396.out 1).trans rfl, ((HB.out.cell (World.block_lt_of_cell? w _ hw422_0)).trans hw422_0), ((HB.out.cell (World.block_lt_of_cell? w _ hw423_0)).trans hw423_0)⟩ (fun hHeld => ?_)
             clear hK K
             refine zq_ (some 153) (h := ?_)
             refine yl_ 25 none (fun K hK => ?_)
             have hs117 := zx_ (v := .bool x422000_6) BK421 0
             have hfs117 := blk_frozen BK421.out 0
             have hns117_0 := NB395_421.out
             have hns117_1 := NB396_421.out
             have hns117_2 := NB397_421.out
             have hns117_3 := NB420_421.out
             have hms117_0 := NB421_395.out
             have hms117_1 := NB421_396.out
             have hms117_2 := NB421_397.out
             have hms117_3 := NB421_420.out
             have hs118 := zx_ (v := .int .u64 x422001_6) BK421 1
             have hfs118 := blk_frozen BK421.out 1
             have hns118_0 := NB395_421.out
             have hns118_1 := NB396_421.out
             have hns118_2 := NB397_421.out
             have hns118_3 := NB420_421.out
             have hms118_0 := NB421_395.out
             have hms118_1 := NB421_396.out
             have hms118_2 := NB421_397.out
             have hms118_3 := NB421_420.out
             have hs119 := zx_ (v := .int .u64 x422002_6) BK421 2
             have hfs119 := blk_frozen BK421.out 2
             have hns119_0 := NB395_421.out
             have hns119_1 := NB396_421.out
             have hns119_2 := NB397_421.out
             have hns119_3 := NB420_421.out
             have hms119_0 := NB421_395.out
             have hms119_1 := NB421_396.out
             have hms119_2 := NB421_397.out
             have hms119_3 := NB421_420.out
             have hs120 := zx_ (v := .int .u64 x422003_6) BK421 3
             have hfs120 := blk_frozen BK421.out 3
             have hns120_0 := NB395_421.out
             have hns120_1 := NB396_421.out
             have hns120_2 := NB397_421.out
             have hns120_3 := NB420_421.out
             have hms120_0 := NB421_395.out
             have hms120_1 := NB421_396.out
             have hms120_2 := NB421_397.out
             have hms120_3 := NB421_420.out
             have hs121 := zx_ (v := .int .u64 x422004_6) BK421 4
             have hfs121 := blk_frozen BK421.out 4
             have hns121_0 := NB395_421.out
             have hns121_1 := NB396_421.out
             have hns121_2 := NB397_421.out
             have hns121_3 := NB420_421.out
             have hms121_0 := NB421_395.out
             have hms121_1 := NB421_396.out
             have hms121_2 := NB421_397.out
             have hms121_3 := NB421_420.out
             refine skip_ (w1 := ?_) (by rfl) rfl ?_ ?_
             rotate_left
             ·go_simp
              rfl
             refine hK.out _ _ ?_
             clear hK K
             refine done_ (done_of HT_.out (by kernel_rfl)) ?_
             try go_wp2
             go_roundg k6
             case measure => have := HJ4.out; have := HJ58.out; have := HK3.out; have := HK4.out; have := HK5.out; have := HK6.out; omega
             case rel => exact ⟨(wrap64 (x19_6 + 1)), (t429), (t430), (t431), (t432), (t433), z1_, H', ⟨by have := HJ4.out; have := HJ58.out; have := HK3.out; have := HK4.out; have := HK5.out; have := HK6.out; omega⟩, ⟨zr_ (Kd.R_mono (Kd.R_far (p := ⟨gb421, 4, none⟩) (Kd.R_far (p := ⟨gb421, 3, none⟩) (Kd.R_far (p := ⟨gb421, 2, none⟩) (Kd.R_far (p := ⟨gb421, 1, none⟩) (Kd.R_far (p := ⟨gb421, 0, none⟩) (Kd.R_types HO_421000.out BK421.out (by decide)) (fun _ hk => hk.2) (.bool t429)) (fun _ hk => hk.2) (.int .u64 t430)) (fun _ hk => hk.2) (.int .u64 t431)) (fun _ hk => hk.2) (.int .u64 t432)) (fun _ hk => hk.2) (.int .u64 t433)) (fun _ hk => trivial))⟩, ⟨zr_ (Kd.R_mono (Kd.R_far (p := ⟨gb421, 4, none⟩) (Kd.R_far (p := ⟨gb421, 3, none⟩) (Kd.R_far (p := ⟨gb421, 2, none⟩) (Kd.R_far (p := ⟨gb421, 1, none⟩) (Kd.R_far (p := ⟨gb421, 0, none⟩) (Kd.R_types HO_421001.out BK421.out (by decide)) (fun _ hk => hk.2) (.bool t429)) (fun _ hk => hk.2) (.int .u64 t430)) (fun _ hk => hk.2) (.int .u64 t431)) (fun _ hk => hk.2) (.int .u64 t432)) (fun _ hk => hk.2) (.int .u64 t433)) (fun _ hk => trivial))⟩, ⟨zv1_ BK395 NB395_421⟩, ⟨zv1_ BK396 NB396_421⟩, ⟨zv1_ BK397 NB397_421⟩, ⟨zv1_ BK420 NB420_421⟩, ⟨zo5_ BK421⟩, ⟨zw5_ HB GE395 GE396 GE397 GE420 GE421⟩⟩

end Go.Proofs.Ytcipfhlcgnomaaa.PConvBacks
