/- The functions that the law OptSteps reaches, as Lean functions, and that each call of the Go function does what its Lean function says, wherever that one answers. Written by a program of mine over the print of the kit; Lean checks it. -/
import Derived.Test.YtaanhfcioemekaaPOptStepsx0
import Derived.Test.YtaanhfcioemekaaPOptStepsx8
import Derived.Test.YtaanhfcioemekaaPOptStepsx9
import Derived.Test.YtaanhfcioemekaaPOptStepsx10
namespace Go.Proofs.Ytaanhfcioemekaa.POptSteps
open Go.RowKit Go.Proofs.YtaanhfcioemekaaW.PrintWords Go.Proofs.YtaanhfcioemekaaW.PrintLast Go.Proofs.YtaanhfcioemekaaW.PrintMore
attribute [local go_sem] max2_int min2_int max_two min_two max_three min_three max_four min_four   -- for this text's walks alone
theorem sdn_13 (w : World) (n : Nat) (a : Addr) (v : Value) : (w.drewN n).setCell a v = (w.setCell a v).drewN n := rfl
set_option linter.unusedVariables false
set_option linter.unusedSimpArgs false

/-! ### carouselref10_Apply: function 13 -/
mutual
def carouselref10_Apply.j0 : Nat → List (S30) → Int → Bool → List Int → List Int → Int → Int → Int → Option (List Int × List Int × Int)
 | 0, _, _, _, _, _, _, _, _ => none
 | k + 1, x1, x2, x28, x305000, x305001, x306000, x306001, x306002 => if x28 = true then (some (([] : List Int), ([] : List Int), 4)) else (if x2 < 1 then (carouselref10_Apply.j1 k x1 x2 true x305000 x305001 x306000 x306001 x306002) else (carouselref10_Apply.j1 k x1 x2 (decide (x306002 < 0)) x305000 x305001 x306000 x306001 x306002))
def carouselref10_Apply.j1 : Nat → List (S30) → Int → Bool → List Int → List Int → Int → Int → Int → Option (List Int × List Int × Int)
 | 0, _, _, _, _, _, _, _, _ => none
 | k + 1, x1, x2, x36, x305000, x305001, x306000, x306001, x306002 => if x36 = true then (some (([] : List Int), ([] : List Int), 1)) else (carouselref10_Apply.l0 k x1 x2 0 x305000 x305001 x306000 x306001 x306002 ([] : List Int) ([] : List Int))
def carouselref10_Apply.l0 : Nat → List (S30) → Int → Int → List Int → List Int → Int → Int → Int → List Int → List Int → Option (List Int × List Int × Int)
 | 0, _, _, _, _, _, _, _, _, _, _ => none
 | k + 1, x1, x2, x11, x305000, x305001, x306000, x306001, x306002, x308000, x308001 => if x11 < (x1.length : Int) then (if 0 ≤ x11 then ((carouselref1_Over.f k ((rd_T30 x1 x11).f0) ((rd_T30 x1 x11).f1) x2).bind fun t309 => (if x306002 > 0 then (carouselref10_Apply.j3 k x1 x2 x11 t309 (decide (t309 > x306002)) x305000 x305001 x306000 x306001 x306002 x308000 x308001) else (carouselref10_Apply.j3 k x1 x2 x11 t309 false x305000 x305001 x306000 x306001 x306002 x308000 x308001))) else (none)) else (some (x308000, x308001, 0))
def carouselref10_Apply.j3 : Nat → List (S30) → Int → Int → Int → Bool → List Int → List Int → Int → Int → Int → List Int → List Int → Option (List Int × List Int × Int)
 | 0, _, _, _, _, _, _, _, _, _, _, _, _ => none
 | k + 1, x1, x2, x11, x12, x59, x305000, x305001, x306000, x306001, x306002, x308000, x308001 => if x59 = true then (carouselref10_Apply.j4 k x1 x2 x11 x306002 x305000 x305001 x306000 x306001 x306002 x308000 x308001) else (carouselref10_Apply.j4 k x1 x2 x11 x12 x305000 x305001 x306000 x306001 x306002 x308000 x308001)
def carouselref10_Apply.j4 : Nat → List (S30) → Int → Int → Int → List Int → List Int → Int → Int → Int → List Int → List Int → Option (List Int × List Int × Int)
 | 0, _, _, _, _, _, _, _, _, _, _, _ => none
 | k + 1, x1, x2, x11, x12, x305000, x305001, x306000, x306001, x306002, x308000, x308001 => if x306002 > 0 then (carouselref10_Apply.j5 k x1 x2 x11 x12 (decide (x12 < (wrap64 (-x306002)))) x305000 x305001 x306000 x306001 x306002 x308000 x308001) else (carouselref10_Apply.j5 k x1 x2 x11 x12 false x305000 x305001 x306000 x306001 x306002 x308000 x308001)
def carouselref10_Apply.j5 : Nat → List (S30) → Int → Int → Int → Bool → List Int → List Int → Int → Int → Int → List Int → List Int → Option (List Int × List Int × Int)
 | 0, _, _, _, _, _, _, _, _, _, _, _, _ => none
 | k + 1, x1, x2, x11, x12, x71, x305000, x305001, x306000, x306001, x306002, x308000, x308001 => if x71 = true then (carouselref10_Apply.j6 k x1 x2 x11 (wrap64 (-x306002)) x305000 x305001 x306000 x306001 x306002 x308000 x308001) else (carouselref10_Apply.j6 k x1 x2 x11 x12 x305000 x305001 x306000 x306001 x306002 x308000 x308001)
def carouselref10_Apply.j6 : Nat → List (S30) → Int → Int → Int → List Int → List Int → Int → Int → Int → List Int → List Int → Option (List Int × List Int × Int)
 | 0, _, _, _, _, _, _, _, _, _, _, _ => none
 | k + 1, x1, x2, x11, x12, x305000, x305001, x306000, x306001, x306002, x308000, x308001 => if 0 ≤ x11 then (if x11 < (x305001.length : Int) then ((carouselref1_Mul.f k x306001 (rd x305001 x11)).bind fun t311 => ((carouselref1_Add.f k t311 x12).bind fun t312 => (if x308001.length < 17592186044416 then (if x11 < (x305000.length : Int) then ((carouselref1_Mul.f k x306000 t312).bind fun t317 => ((carouselref1_Sub.f k (rd x305000 x11) t317).bind fun t318 => (if x308000.length < 17592186044416 then (carouselref10_Apply.l0 k x1 x2 (wrap64 (x11 + 1)) x305000 x305001 x306000 x306001 x306002 (x308000 ++ [t318]) (x308001 ++ [t312])) else (none)))) else (none)) else (none)))) else (none)) else (none)
end
def carouselref10_Apply.f (k : Nat) (l0_0 : List Int) (l0_1 : List Int) (l1 : List (S30)) (a2 : Int) (a3_0 : Int) (a3_1 : Int) (a3_2 : Int) : Option (List Int × List Int × Int) := if (l0_0.length : Int) = (l0_1.length : Int) then (carouselref10_Apply.j0 k l1 a2 ((l0_0.length : Int) != (l1.length : Int)) l0_0 l0_1 a3_0 a3_1 a3_2) else (carouselref10_Apply.j0 k l1 a2 true l0_0 l0_1 a3_0 a3_1 a3_2)
theorem carouselref10_Apply.mono_l : ∀ k, (∀ y0 y1 y2 y3 y4 y5 y6 y7, LeO (carouselref10_Apply.j0 k y0 y1 y2 y3 y4 y5 y6 y7) (carouselref10_Apply.j0 (k + 1) y0 y1 y2 y3 y4 y5 y6 y7)) ∧ (∀ y0 y1 y2 y3 y4 y5 y6 y7, LeO (carouselref10_Apply.j1 k y0 y1 y2 y3 y4 y5 y6 y7) (carouselref10_Apply.j1 (k + 1) y0 y1 y2 y3 y4 y5 y6 y7)) ∧ (∀ y0 y1 y2 y3 y4 y5 y6 y7 y8 y9, LeO (carouselref10_Apply.l0 k y0 y1 y2 y3 y4 y5 y6 y7 y8 y9) (carouselref10_Apply.l0 (k + 1) y0 y1 y2 y3 y4 y5 y6 y7 y8 y9)) ∧ (∀ y0 y1 y2 y3 y4 y5 y6 y7 y8 y9 y10 y11, LeO (carouselref10_Apply.j3 k y0 y1 y2 y3 y4 y5 y6 y7 y8 y9 y10 y11) (carouselref10_Apply.j3 (k + 1) y0 y1 y2 y3 y4 y5 y6 y7 y8 y9 y10 y11)) ∧ (∀ y0 y1 y2 y3 y4 y5 y6 y7 y8 y9 y10, LeO (carouselref10_Apply.j4 k y0 y1 y2 y3 y4 y5 y6 y7 y8 y9 y10) (carouselref10_Apply.j4 (k + 1) y0 y1 y2 y3 y4 y5 y6 y7 y8 y9 y10)) ∧ (∀ y0 y1 y2 y3 y4 y5 y6 y7 y8 y9 y10 y11, LeO (carouselref10_Apply.j5 k y0 y1 y2 y3 y4 y5 y6 y7 y8 y9 y10 y11) (carouselref10_Apply.j5 (k + 1) y0 y1 y2 y3 y4 y5 y6 y7 y8 y9 y10 y11)) ∧ (∀ y0 y1 y2 y3 y4 y5 y6 y7 y8 y9 y10, LeO (carouselref10_Apply.j6 k y0 y1 y2 y3 y4 y5 y6 y7 y8 y9 y10) (carouselref10_Apply.j6 (k + 1) y0 y1 y2 y3 y4 y5 y6 y7 y8 y9 y10))
 | 0 => ⟨fun _ _ _ _ _ _ _ _ r h => by simp [carouselref10_Apply.j0] at h, fun _ _ _ _ _ _ _ _ r h => by simp [carouselref10_Apply.j1] at h, fun _ _ _ _ _ _ _ _ _ _ r h => by simp [carouselref10_Apply.l0] at h, fun _ _ _ _ _ _ _ _ _ _ _ _ r h => by simp [carouselref10_Apply.j3] at h, fun _ _ _ _ _ _ _ _ _ _ _ r h => by simp [carouselref10_Apply.j4] at h, fun _ _ _ _ _ _ _ _ _ _ _ _ r h => by simp [carouselref10_Apply.j5] at h, fun _ _ _ _ _ _ _ _ _ _ _ r h => by simp [carouselref10_Apply.j6] at h⟩
 | k + 1 => by
  obtain ⟨ih0, ih1, ih2, ih3, ih4, ih5, ih6⟩ := carouselref10_Apply.mono_l k
  refine ⟨?_, ?_, ?_, ?_, ?_, ?_, ?_⟩
  ·intro y0 y1 y2 y3 y4 y5 y6 y7
   unfold carouselref10_Apply.j0
   repeat' first
   | (with_reducible exact ih0 _ _ _ _ _ _ _ _)
   | (with_reducible exact ih1 _ _ _ _ _ _ _ _)
   | (with_reducible exact ih2 _ _ _ _ _ _ _ _ _ _)
   | (with_reducible exact ih3 _ _ _ _ _ _ _ _ _ _ _ _)
   | (with_reducible exact ih4 _ _ _ _ _ _ _ _ _ _ _)
   | (with_reducible exact ih5 _ _ _ _ _ _ _ _ _ _ _ _)
   | (with_reducible exact ih6 _ _ _ _ _ _ _ _ _ _ _)
   | (with_reducible exact carouselref1_Add.mono _ _ _)
   | (with_reducible exact carouselref1_Mul.mono _ _ _)
   | (with_reducible exact carouselref1_Over.mono _ _ _ _)
   | (with_reducible exact carouselref1_Sub.mono _ _ _)
   | (with_reducible exact LeO.refl _)
   | (with_reducible exact LeO.none _)
   | (with_reducible refine LeO.ite ?_ ?_)
   | (with_reducible refine LeO.bind ?_ (fun _ => ?_))
   | exact ih0 _ _ _ _ _ _ _ _
   | exact ih1 _ _ _ _ _ _ _ _
   | exact ih2 _ _ _ _ _ _ _ _ _ _
   | exact ih3 _ _ _ _ _ _ _ _ _ _ _ _
   | exact ih4 _ _ _ _ _ _ _ _ _ _ _
   | exact ih5 _ _ _ _ _ _ _ _ _ _ _ _
   | exact ih6 _ _ _ _ _ _ _ _ _ _ _
   | exact carouselref1_Add.mono _ _ _
   | exact carouselref1_Mul.mono _ _ _
   | exact carouselref1_Over.mono _ _ _ _
   | exact carouselref1_Sub.mono _ _ _
   | exact LeO.none _
   | refine LeO.ite ?_ ?_
   | refine LeO.bind ?_ (fun _ => ?_)
  ·intro y0 y1 y2 y3 y4 y5 y6 y7
   unfold carouselref10_Apply.j1
   repeat' first
   | (with_reducible exact ih0 _ _ _ _ _ _ _ _)
   | (with_reducible exact ih1 _ _ _ _ _ _ _ _)
   | (with_reducible exact ih2 _ _ _ _ _ _ _ _ _ _)
   | (with_reducible exact ih3 _ _ _ _ _ _ _ _ _ _ _ _)
   | (with_reducible exact ih4 _ _ _ _ _ _ _ _ _ _ _)
   | (with_reducible exact ih5 _ _ _ _ _ _ _ _ _ _ _ _)
   | (with_reducible exact ih6 _ _ _ _ _ _ _ _ _ _ _)
   | (with_reducible exact carouselref1_Add.mono _ _ _)
   | (with_reducible exact carouselref1_Mul.mono _ _ _)
   | (with_reducible exact carouselref1_Over.mono _ _ _ _)
   | (with_reducible exact carouselref1_Sub.mono _ _ _)
   | (with_reducible exact LeO.refl _)
   | (with_reducible exact LeO.none _)
   | (with_reducible refine LeO.ite ?_ ?_)
   | (with_reducible refine LeO.bind ?_ (fun _ => ?_))
   | exact ih0 _ _ _ _ _ _ _ _
   | exact ih1 _ _ _ _ _ _ _ _
   | exact ih2 _ _ _ _ _ _ _ _ _ _
   | exact ih3 _ _ _ _ _ _ _ _ _ _ _ _
   | exact ih4 _ _ _ _ _ _ _ _ _ _ _
   | exact ih5 _ _ _ _ _ _ _ _ _ _ _ _
   | exact ih6 _ _ _ _ _ _ _ _ _ _ _
   | exact carouselref1_Add.mono _ _ _
   | exact carouselref1_Mul.mono _ _ _
   | exact carouselref1_Over.mono _ _ _ _
   | exact carouselref1_Sub.mono _ _ _
   | exact LeO.none _
   | refine LeO.ite ?_ ?_
   | refine LeO.bind ?_ (fun _ => ?_)
  ·intro y0 y1 y2 y3 y4 y5 y6 y7 y8 y9
   unfold carouselref10_Apply.l0
   repeat' first
   | (with_reducible exact ih0 _ _ _ _ _ _ _ _)
   | (with_reducible exact ih1 _ _ _ _ _ _ _ _)
   | (with_reducible exact ih2 _ _ _ _ _ _ _ _ _ _)
   | (with_reducible exact ih3 _ _ _ _ _ _ _ _ _ _ _ _)
   | (with_reducible exact ih4 _ _ _ _ _ _ _ _ _ _ _)
   | (with_reducible exact ih5 _ _ _ _ _ _ _ _ _ _ _ _)
   | (with_reducible exact ih6 _ _ _ _ _ _ _ _ _ _ _)
   | (with_reducible exact carouselref1_Add.mono _ _ _)
   | (with_reducible exact carouselref1_Mul.mono _ _ _)
   | (with_reducible exact carouselref1_Over.mono _ _ _ _)
   | (with_reducible exact carouselref1_Sub.mono _ _ _)
   | (with_reducible exact LeO.refl _)
   | (with_reducible exact LeO.none _)
   | (with_reducible refine LeO.ite ?_ ?_)
   | (with_reducible refine LeO.bind ?_ (fun _ => ?_))
   | exact ih0 _ _ _ _ _ _ _ _
   | exact ih1 _ _ _ _ _ _ _ _
   | exact ih2 _ _ _ _ _ _ _ _ _ _
   | exact ih3 _ _ _ _ _ _ _ _ _ _ _ _
   | exact ih4 _ _ _ _ _ _ _ _ _ _ _
   | exact ih5 _ _ _ _ _ _ _ _ _ _ _ _
   | exact ih6 _ _ _ _ _ _ _ _ _ _ _
   | exact carouselref1_Add.mono _ _ _
   | exact carouselref1_Mul.mono _ _ _
   | exact carouselref1_Over.mono _ _ _ _
   | exact carouselref1_Sub.mono _ _ _
   | exact LeO.none _
   | refine LeO.ite ?_ ?_
   | refine LeO.bind ?_ (fun _ => ?_)
  ·intro y0 y1 y2 y3 y4 y5 y6 y7 y8 y9 y10 y11
   unfold carouselref10_Apply.j3
   repeat' first
   | (with_reducible exact ih0 _ _ _ _ _ _ _ _)
   | (with_reducible exact ih1 _ _ _ _ _ _ _ _)
   | (with_reducible exact ih2 _ _ _ _ _ _ _ _ _ _)
   | (with_reducible exact ih3 _ _ _ _ _ _ _ _ _ _ _ _)
   | (with_reducible exact ih4 _ _ _ _ _ _ _ _ _ _ _)
   | (with_reducible exact ih5 _ _ _ _ _ _ _ _ _ _ _ _)
   | (with_reducible exact ih6 _ _ _ _ _ _ _ _ _ _ _)
   | (with_reducible exact carouselref1_Add.mono _ _ _)
   | (with_reducible exact carouselref1_Mul.mono _ _ _)
   | (with_reducible exact carouselref1_Over.mono _ _ _ _)
   | (with_reducible exact carouselref1_Sub.mono _ _ _)
   | (with_reducible exact LeO.refl _)
   | (with_reducible exact LeO.none _)
   | (with_reducible refine LeO.ite ?_ ?_)
   | (with_reducible refine LeO.bind ?_ (fun _ => ?_))
   | exact ih0 _ _ _ _ _ _ _ _
   | exact ih1 _ _ _ _ _ _ _ _
   | exact ih2 _ _ _ _ _ _ _ _ _ _
   | exact ih3 _ _ _ _ _ _ _ _ _ _ _ _
   | exact ih4 _ _ _ _ _ _ _ _ _ _ _
   | exact ih5 _ _ _ _ _ _ _ _ _ _ _ _
   | exact ih6 _ _ _ _ _ _ _ _ _ _ _
   | exact carouselref1_Add.mono _ _ _
   | exact carouselref1_Mul.mono _ _ _
   | exact carouselref1_Over.mono _ _ _ _
   | exact carouselref1_Sub.mono _ _ _
   | exact LeO.none _
   | refine LeO.ite ?_ ?_
   | refine LeO.bind ?_ (fun _ => ?_)
  ·intro y0 y1 y2 y3 y4 y5 y6 y7 y8 y9 y10
   unfold carouselref10_Apply.j4
   repeat' first
   | (with_reducible exact ih0 _ _ _ _ _ _ _ _)
   | (with_reducible exact ih1 _ _ _ _ _ _ _ _)
   | (with_reducible exact ih2 _ _ _ _ _ _ _ _ _ _)
   | (with_reducible exact ih3 _ _ _ _ _ _ _ _ _ _ _ _)
   | (with_reducible exact ih4 _ _ _ _ _ _ _ _ _ _ _)
   | (with_reducible exact ih5 _ _ _ _ _ _ _ _ _ _ _ _)
   | (with_reducible exact ih6 _ _ _ _ _ _ _ _ _ _ _)
   | (with_reducible exact carouselref1_Add.mono _ _ _)
   | (with_reducible exact carouselref1_Mul.mono _ _ _)
   | (with_reducible exact carouselref1_Over.mono _ _ _ _)
   | (with_reducible exact carouselref1_Sub.mono _ _ _)
   | (with_reducible exact LeO.refl _)
   | (with_reducible exact LeO.none _)
   | (with_reducible refine LeO.ite ?_ ?_)
   | (with_reducible refine LeO.bind ?_ (fun _ => ?_))
   | exact ih0 _ _ _ _ _ _ _ _
   | exact ih1 _ _ _ _ _ _ _ _
   | exact ih2 _ _ _ _ _ _ _ _ _ _
   | exact ih3 _ _ _ _ _ _ _ _ _ _ _ _
   | exact ih4 _ _ _ _ _ _ _ _ _ _ _
   | exact ih5 _ _ _ _ _ _ _ _ _ _ _ _
   | exact ih6 _ _ _ _ _ _ _ _ _ _ _
   | exact carouselref1_Add.mono _ _ _
   | exact carouselref1_Mul.mono _ _ _
   | exact carouselref1_Over.mono _ _ _ _
   | exact carouselref1_Sub.mono _ _ _
   | exact LeO.none _
   | refine LeO.ite ?_ ?_
   | refine LeO.bind ?_ (fun _ => ?_)
  ·intro y0 y1 y2 y3 y4 y5 y6 y7 y8 y9 y10 y11
   unfold carouselref10_Apply.j5
   repeat' first
   | (with_reducible exact ih0 _ _ _ _ _ _ _ _)
   | (with_reducible exact ih1 _ _ _ _ _ _ _ _)
   | (with_reducible exact ih2 _ _ _ _ _ _ _ _ _ _)
   | (with_reducible exact ih3 _ _ _ _ _ _ _ _ _ _ _ _)
   | (with_reducible exact ih4 _ _ _ _ _ _ _ _ _ _ _)
   | (with_reducible exact ih5 _ _ _ _ _ _ _ _ _ _ _ _)
   | (with_reducible exact ih6 _ _ _ _ _ _ _ _ _ _ _)
   | (with_reducible exact carouselref1_Add.mono _ _ _)
   | (with_reducible exact carouselref1_Mul.mono _ _ _)
   | (with_reducible exact carouselref1_Over.mono _ _ _ _)
   | (with_reducible exact carouselref1_Sub.mono _ _ _)
   | (with_reducible exact LeO.refl _)
   | (with_reducible exact LeO.none _)
   | (with_reducible refine LeO.ite ?_ ?_)
   | (with_reducible refine LeO.bind ?_ (fun _ => ?_))
   | exact ih0 _ _ _ _ _ _ _ _
   | exact ih1 _ _ _ _ _ _ _ _
   | exact ih2 _ _ _ _ _ _ _ _ _ _
   | exact ih3 _ _ _ _ _ _ _ _ _ _ _ _
   | exact ih4 _ _ _ _ _ _ _ _ _ _ _
   | exact ih5 _ _ _ _ _ _ _ _ _ _ _ _
   | exact ih6 _ _ _ _ _ _ _ _ _ _ _
   | exact carouselref1_Add.mono _ _ _
   | exact carouselref1_Mul.mono _ _ _
   | exact carouselref1_Over.mono _ _ _ _
   | exact carouselref1_Sub.mono _ _ _
   | exact LeO.none _
   | refine LeO.ite ?_ ?_
   | refine LeO.bind ?_ (fun _ => ?_)
  ·intro y0 y1 y2 y3 y4 y5 y6 y7 y8 y9 y10
   unfold carouselref10_Apply.j6
   repeat' first
   | (with_reducible exact ih0 _ _ _ _ _ _ _ _)
   | (with_reducible exact ih1 _ _ _ _ _ _ _ _)
   | (with_reducible exact ih2 _ _ _ _ _ _ _ _ _ _)
   | (with_reducible exact ih3 _ _ _ _ _ _ _ _ _ _ _ _)
   | (with_reducible exact ih4 _ _ _ _ _ _ _ _ _ _ _)
   | (with_reducible exact ih5 _ _ _ _ _ _ _ _ _ _ _ _)
   | (with_reducible exact ih6 _ _ _ _ _ _ _ _ _ _ _)
   | (with_reducible exact carouselref1_Add.mono _ _ _)
   | (with_reducible exact carouselref1_Mul.mono _ _ _)
   | (with_reducible exact carouselref1_Over.mono _ _ _ _)
   | (with_reducible exact carouselref1_Sub.mono _ _ _)
   | (with_reducible exact LeO.refl _)
   | (with_reducible exact LeO.none _)
   | (with_reducible refine LeO.ite ?_ ?_)
   | (with_reducible refine LeO.bind ?_ (fun _ => ?_))
   | exact ih0 _ _ _ _ _ _ _ _
   | exact ih1 _ _ _ _ _ _ _ _
   | exact ih2 _ _ _ _ _ _ _ _ _ _
   | exact ih3 _ _ _ _ _ _ _ _ _ _ _ _
   | exact ih4 _ _ _ _ _ _ _ _ _ _ _
   | exact ih5 _ _ _ _ _ _ _ _ _ _ _ _
   | exact ih6 _ _ _ _ _ _ _ _ _ _ _
   | exact carouselref1_Add.mono _ _ _
   | exact carouselref1_Mul.mono _ _ _
   | exact carouselref1_Over.mono _ _ _ _
   | exact carouselref1_Sub.mono _ _ _
   | exact LeO.none _
   | refine LeO.ite ?_ ?_
   | refine LeO.bind ?_ (fun _ => ?_)
theorem carouselref10_Apply.mono : ∀ a0 a1 a2 a3 a4 a5 a6 k, LeO (carouselref10_Apply.f k a0 a1 a2 a3 a4 a5 a6) (carouselref10_Apply.f (k + 1) a0 a1 a2 a3 a4 a5 a6) := by
 intro a0 a1 a2 a3 a4 a5 a6 k
 obtain ⟨ih0, ih1, ih2, ih3, ih4, ih5, ih6⟩ := carouselref10_Apply.mono_l k
 unfold carouselref10_Apply.f
 repeat' first
   | (with_reducible exact ih0 _ _ _ _ _ _ _ _)
   | (with_reducible exact ih1 _ _ _ _ _ _ _ _)
   | (with_reducible exact ih2 _ _ _ _ _ _ _ _ _ _)
   | (with_reducible exact ih3 _ _ _ _ _ _ _ _ _ _ _ _)
   | (with_reducible exact ih4 _ _ _ _ _ _ _ _ _ _ _)
   | (with_reducible exact ih5 _ _ _ _ _ _ _ _ _ _ _ _)
   | (with_reducible exact ih6 _ _ _ _ _ _ _ _ _ _ _)
   | (with_reducible exact carouselref1_Add.mono _ _ _)
   | (with_reducible exact carouselref1_Mul.mono _ _ _)
   | (with_reducible exact carouselref1_Over.mono _ _ _ _)
   | (with_reducible exact carouselref1_Sub.mono _ _ _)
   | (with_reducible exact LeO.refl _)
   | (with_reducible exact LeO.none _)
   | (with_reducible refine LeO.ite ?_ ?_)
   | (with_reducible refine LeO.bind ?_ (fun _ => ?_))
   | exact ih0 _ _ _ _ _ _ _ _
   | exact ih1 _ _ _ _ _ _ _ _
   | exact ih2 _ _ _ _ _ _ _ _ _ _
   | exact ih3 _ _ _ _ _ _ _ _ _ _ _ _
   | exact ih4 _ _ _ _ _ _ _ _ _ _ _
   | exact ih5 _ _ _ _ _ _ _ _ _ _ _ _
   | exact ih6 _ _ _ _ _ _ _ _ _ _ _
   | exact carouselref1_Add.mono _ _ _
   | exact carouselref1_Mul.mono _ _ _
   | exact carouselref1_Over.mono _ _ _ _
   | exact carouselref1_Sub.mono _ _ _
   | exact LeO.none _
   | refine LeO.ite ?_ ?_
   | refine LeO.bind ?_ (fun _ => ?_)
def carouselref10_Apply.T14 : Bool × List (List Nat × List Nat) := (true, [([], []), ([0], [0]), ([], []), ([2], [2]), ([], []), ([3, 4], [3, 4]), ([5], [5]), ([1, 6], [1, 6]), ([], []), ([7, 8, 7], [7, 8]), ([9, 9, 0, 1, 2, 3, 4, 5, 6, 7, 8, 9], [9])])
def carouselref10_Apply.B14 : List Nat := [0, 1, 0, 4, 0, 28, 60, 127, 0, 511, 1023]
theorem carouselref10_Apply.tab14 : rtab .any (opsOf Try.f13 14) = carouselref10_Apply.T14 := by kernel_rfl
theorem carouselref10_Apply.bits14 : waitsOk carouselref10_Apply.T14.2 carouselref10_Apply.B14 = true := by kernel_rfl
def carouselref10_Apply.T16 : Bool × List (List Nat × List Nat) := (true, [([], []), ([0], [0]), ([], []), ([2], [2]), ([], []), ([3, 4], [3, 4]), ([5], [5]), ([], []), ([7], [7]), ([], []), ([8, 9], [8, 9]), ([6, 10, 10], [6, 10]), ([11], [11]), ([1, 12, 11], [1, 12]), ([0, 1, 2, 3, 4, 5, 6, 7, 8, 9, 10, 11, 12, 13], []), ([14, 13, 13, 0, 1, 2, 3, 4, 5, 6, 7, 8, 9, 10, 11, 12, 13], [13, 14])])
def carouselref10_Apply.B16 : List Nat := [0, 1, 0, 4, 0, 28, 60, 0, 128, 0, 896, 2044, 4092, 8191, 16383, 32767]
theorem carouselref10_Apply.tab16 : rtab .any (opsOf Try.f13 16) = carouselref10_Apply.T16 := by kernel_rfl
theorem carouselref10_Apply.bits16 : waitsOk carouselref10_Apply.T16.2 carouselref10_Apply.B16 = true := by kernel_rfl
set_option maxHeartbeats 8000000 in
set_option maxRecDepth 100000 in
theorem carouselref10_Apply.calls (k : Nat) (A0_0 : Option Addr) (c0_0 : Nat) (l0_0 : List Int) (A0_1 : Option Addr) (c0_1 : Nat) (l0_1 : List Int) (A1 : Option Addr) (c1 : Nat) (l1 : List (S30)) (a2 : Int) (a3_0 : Int) (a3_1 : Int) (a3_2 : Int) (r1 : List Int) (r2 : List Int) (r3 : Int) (w : World) (hr0_0 : Kd.C (Kd.int .i64) w A0_0 l0_0.length l0_0) (hc0_0 : l0_0.length ≤ c0_0) (hr0_1 : Kd.C (Kd.int .i64) w A0_1 l0_1.length l0_1) (hc0_1 : l0_1.length ≤ c0_1) (hr1 : Kd.C k30 w A1 l1.length l1) (hc1 : l1.length ≤ c1) (h : carouselref10_Apply.f k l0_0 l0_1 l1 a2 a3_0 a3_1 a3_2 = some (r1, r2, r3)) :
  Calls Try.prog 13 #[.agg #[.slice A0_0 l0_0.length c0_0, .slice A0_1 l0_1.length c0_1], .slice A1 l1.length c1, .int .i64 a2, .agg #[.int .i64 a3_0, .int .i64 a3_1, .int .i64 a3_2]] w fun e w' => ∃ v0_ v1_ : Value, e = .returned (.tuple #[.agg #[v0_, v1_], .int .i64 r3]) ∧ Kd.R (Kd.int .i64) 27 w' w.heap.size (fun k_ => some k_ ≠ (v1_ : Value).ownBlock) v0_ r1 ∧ Kd.R (Kd.int .i64) 27 w' w.heap.size (fun k_ => some k_ ≠ (v0_ : Value).ownBlock) v1_ r2 ∧ Below w.heap.size w w' := by
 have hu38 := Try.underlying38
 have hu41 := Try.underlying41
 have hu30 := Try.underlying30
 have HR0_0 := Aside0.mk hr0_0
 have HC0_0 := Aside0.mk hc0_0
 clear hr0_0 hc0_0
 have HR0_1 := Aside0.mk hr0_1
 have HC0_1 := Aside0.mk hc0_1
 clear hr0_1 hc0_1
 have HR1 := Aside0.mk hr1
 have HC1 := Aside0.mk hc1
 clear hr1 hc1
 have HB := Aside0.mk (Below.refl w.heap.size w)
 have H : (if (l0_0.length : Int) = (l0_1.length : Int) then (carouselref10_Apply.j0 k l1 a2 ((l0_0.length : Int) != (l1.length : Int)) l0_0 l0_1 a3_0 a3_1 a3_2) else (carouselref10_Apply.j0 k l1 a2 true l0_0 l0_1 a3_0 a3_1 a3_2)) = some (r1, r2, r3) := h
 clear h
 have HC5 := Aside0.mk H
 clear H
 go_enter Try.func13, Try.ntmps13
 go_upto_region 1 with (first | ((with_reducible refine gate_dst (N := 4) rfl ?_); (try (refine gate_guard (by rfl) ?_; dsimp only)); refine box_event ?hg (N := 4) ?hd (cs := #[.slice A0_0 l0_0.length c0_0, .slice A0_1 l0_1.length c0_1]) (t := 38) ?hr ?_; (case hd => rfl); (case hg => rfl); (case hr => first | (go_simp; done) | (go_simp; rfl)); intro gb304 hg w6 hbox hb; have n0_ := Aside0.mk (below_step (by repeat (first | (with_reducible first | exact HB.out | apply below_alloc | apply pw_below_drewN | apply below_drew1) | exact HB.out)) hb); have n1_ := Aside0.mk (hbox); have n2_ := Aside0.mk ((by rw [hg]; exact (below_size (by repeat (first | (with_reducible first | exact HB.out | apply below_alloc | apply pw_below_drewN | apply below_drew1) | exact HB.out))) : w.heap.size ≤ gb304)); have n3_ := Aside0.mk ((by rw [hg]; exact (below_size (by repeat (first | (with_reducible first | exact HB.out | apply below_alloc | apply pw_below_drewN | apply below_drew1) | exact HB.out))) : w.heap.size ≤ gb304)); clear HB; have HB := n0_; have BK304 := n1_; have GW304 := n2_; have GE304 := n3_; clear n0_ n1_ n2_ n3_; clear hb hbox hg) | ((with_reducible refine gate_dst (N := 7) rfl ?_); (try (refine gate_guard (by rfl) ?_; dsimp only)); refine box_event ?hg (N := 7) ?hd (cs := #[.int .i64 a3_0, .int .i64 a3_1, .int .i64 a3_2]) (t := 41) ?hr ?_; (case hd => rfl); (case hg => rfl); (case hr => first | (go_simp; done) | (go_simp; rfl)); intro gb305 hg w7 hbox hb; have n0_ := Aside0.mk (blk_below (g := gb304) (o := .cells #[.slice A0_0 l0_0.length c0_0, .slice A0_1 l0_1.length c0_1] 38 (0, 0)) (by (with_reducible repeat (first | refine blk_drewN ?_ _ | refine blk_drew ?_ | refine blk_alloc ?_ _)); exact BK304.out) hb); have n1_ := Aside0.mk (below_step (by repeat (first | (with_reducible first | exact HB.out | apply below_alloc | apply pw_below_drewN | apply below_drew1 | refine below_set ?_ GE304.out) | exact HB.out)) hb); have n2_ := Aside0.mk (hbox); have n3_ := Aside0.mk ((by rw [hg]; exact (below_size (by repeat (first | (with_reducible first | exact HB.out | apply below_alloc | apply pw_below_drewN | apply below_drew1 | refine below_set ?_ GE304.out) | exact HB.out))) : w.heap.size ≤ gb305)); have n4_ := Aside0.mk ((by rw [hg]; exact (below_size (by repeat (first | (with_reducible first | exact HB.out | apply below_alloc | apply pw_below_drewN | apply below_drew1 | refine below_set ?_ GE304.out) | exact HB.out))) : w.heap.size ≤ gb305)); have n5_ := Aside0.mk ((by rw [hg]; exact Nat.ne_of_lt (blk_lt (g := gb304) (o := .cells #[.slice A0_0 l0_0.length c0_0, .slice A0_1 l0_1.length c0_1] 38 (0, 0)) (by (with_reducible repeat (first | refine blk_drewN ?_ _ | refine blk_drew ?_ | refine blk_alloc ?_ _)); exact BK304.out)) : gb304 ≠ gb305)); have n6_ := Aside0.mk ((by rw [hg]; exact Nat.ne_of_gt (blk_lt (g := gb304) (o := .cells #[.slice A0_0 l0_0.length c0_0, .slice A0_1 l0_1.length c0_1] 38 (0, 0)) (by (with_reducible repeat (first | refine blk_drewN ?_ _ | refine blk_drew ?_ | refine blk_alloc ?_ _)); exact BK304.out)) : gb305 ≠ gb304)); clear BK304; clear HB; have BK304 := n0_; have HB := n1_; have BK305 := n2_; have GW305 := n3_; have GE305 := n4_; have NB304_305 := n5_; have NB305_304 := n6_; clear n0_ n1_ n2_ n3_ n4_ n5_ n6_; clear hb hbox hg) | ((with_reducible refine gate_dst (N := 8) rfl ?_); (try (refine gate_guard (by rfl) ?_; dsimp only)); refine box_event ?hg (N := 8) ?hd (cs := #[.slice none 0 0, .slice none 0 0]) (t := 38) ?hr ?_; (case hd => rfl); (case hg => rfl); (case hr => first | (go_simp; done) | (go_simp; rfl)); intro gb306 hg w8 hbox hb; have n0_ := Aside0.mk (blk_below (g := gb304) (o := .cells #[.slice A0_0 l0_0.length c0_0, .slice A0_1 l0_1.length c0_1] 38 (0, 0)) (by (with_reducible repeat (first | refine blk_drewN ?_ _ | refine blk_drew ?_ | refine blk_alloc ?_ _)); exact BK304.out) hb); have n1_ := Aside0.mk (blk_below (g := gb305) (o := .cells #[.int .i64 a3_0, .int .i64 a3_1, .int .i64 a3_2] 41 (0, 0)) (by (with_reducible repeat (first | refine blk_drewN ?_ _ | refine blk_drew ?_ | refine blk_alloc ?_ _)); exact BK305.out) hb); have n2_ := Aside0.mk (below_step (by repeat (first | (with_reducible first | exact HB.out | apply below_alloc | apply pw_below_drewN | apply below_drew1 | refine below_set ?_ GE304.out | refine below_set ?_ GE305.out) | exact HB.out)) hb); have n3_ := Aside0.mk (hbox); have n4_ := Aside0.mk ((by rw [hg]; exact (below_size (by repeat (first | (with_reducible first | exact HB.out | apply below_alloc | apply pw_below_drewN | apply below_drew1 | refine below_set ?_ GE304.out | refine below_set ?_ GE305.out) | exact HB.out))) : w.heap.size ≤ gb306)); have n5_ := Aside0.mk ((by rw [hg]; exact (below_size (by repeat (first | (with_reducible first | exact HB.out | apply below_alloc | apply pw_below_drewN | apply below_drew1 | refine below_set ?_ GE304.out | refine below_set ?_ GE305.out) | exact HB.out))) : w.heap.size ≤ gb306)); have n6_ := Aside0.mk ((by rw [hg]; exact Nat.ne_of_lt (blk_lt (g := gb304) (o := .cells #[.slice A0_0 l0_0.length c0_0, .slice A0_1 l0_1.length c0_1] 38 (0, 0)) (by (with_reducible repeat (first | refine blk_drewN ?_ _ | refine blk_drew ?_ | refine blk_alloc ?_ _)); exact BK304.out)) : gb304 ≠ gb306)); have n7_ := Aside0.mk ((by rw [hg]; exact Nat.ne_of_gt (blk_lt (g := gb304) (o := .cells #[.slice A0_0 l0_0.length c0_0, .slice A0_1 l0_1.length c0_1] 38 (0, 0)) (by (with_reducible repeat (first | refine blk_drewN ?_ _ | refine blk_drew ?_ | refine blk_alloc ?_ _)); exact BK304.out)) : gb306 ≠ gb304)); have n8_ := Aside0.mk ((by rw [hg]; exact Nat.ne_of_lt (blk_lt (g := gb305) (o := .cells #[.int .i64 a3_0, .int .i64 a3_1, .int .i64 a3_2] 41 (0, 0)) (by (with_reducible repeat (first | refine blk_drewN ?_ _ | refine blk_drew ?_ | refine blk_alloc ?_ _)); exact BK305.out)) : gb305 ≠ gb306)); have n9_ := Aside0.mk ((by rw [hg]; exact Nat.ne_of_gt (blk_lt (g := gb305) (o := .cells #[.int .i64 a3_0, .int .i64 a3_1, .int .i64 a3_2] 41 (0, 0)) (by (with_reducible repeat (first | refine blk_drewN ?_ _ | refine blk_drew ?_ | refine blk_alloc ?_ _)); exact BK305.out)) : gb306 ≠ gb305)); clear BK304; clear BK305; clear HB; have BK304 := n0_; have BK305 := n1_; have HB := n2_; have BK306 := n3_; have GW306 := n4_; have GE306 := n5_; have NB304_306 := n6_; have NB306_304 := n7_; have NB305_306 := n8_; have NB306_305 := n9_; clear n0_ n1_ n2_ n3_ n4_ n5_ n6_ n7_ n8_ n9_; clear hb hbox hg))
 (try simp only [Act.put, List.setIfInBounds_toArray, List.set_cons_zero, List.set_cons_succ])
 go_cut [28] (fun v28 wc => ∃ (kq : Nat) (x28_4 : Bool), v28 = .bool x28_4 ∧ Aside0 (carouselref10_Apply.j0 kq l1 a2 x28_4 l0_0 l0_1 a3_0 a3_1 a3_2 = some (r1, r2, r3)) ∧ Aside0 (kq ≤ k) ∧ Aside0 (wc.heap[gb304]? = some (.cells #[(.slice A0_0 l0_0.length c0_0), (.slice A0_1 l0_1.length c0_1)] 38 (0, 0))) ∧ Aside0 (wc.heap[gb305]? = some (.cells #[.int .i64 a3_0, .int .i64 a3_1, .int .i64 a3_2] 41 (0, 0))) ∧ Aside0 (wc.heap[gb306]? = some (.cells #[(.slice none 0 0), (.slice none 0 0)] 38 (0, 0))) ∧ Aside0 (Below w.heap.size w wc))
 case first =>
  have H := HC5.out
  clear HC5
  by_cases c9 : (l0_0.length : Int) = (l0_1.length : Int)
  ·rw [if_pos c9] at H
   have c9b0 : ((l0_0.length : Int) == (l0_1.length : Int)) = true := beq_iff_eq.mpr c9
   have c9b1 : ((l0_0.length : Int) != (l0_1.length : Int)) = false := bne_eq_false_iff_eq.mpr c9
   have c9b2 : (l0_0.length == l0_1.length) = true := by first | simpa using c9 | (simp at c9 ⊢; omega)
   clear c9
   (first | rw [c9b0] | (simp only [i64_w, i32_w]; rw [c9b0]) | skip)
   have H' := Aside0.mk H
   clear H
   have hnb10 := NB304_305.out
   have hnc10 := NB305_304.out
   have hnb11 := NB304_306.out
   have hnc11 := NB306_304.out
   have hcz12_0 : w8.cell? ⟨gb304, 0, none⟩ = some (.slice A0_0 l0_0.length c0_0) := (blk_cell BK304.out 0).trans rfl
   have hcz12_1 : w8.cell? ⟨gb304, 1, none⟩ = some (.slice A0_1 l0_1.length c0_1) := (blk_cell BK304.out 1).trans rfl
   have hfz12_0 := blk_frozen BK304.out 0
   have hfz12_1 := blk_frozen BK304.out 1
   go_wp2
   go_meet
   case rel => exact ⟨_, (((l0_0.length : Int) != (l1.length : Int))), (by first | rfl | (simp; done) | (simp [*]; done)), H', ⟨by first | omega | exact Nat.le_refl _⟩, ⟨by (with_reducible repeat (first | refine blk_drewN ?_ _ | refine blk_drew ?_ | refine blk_alloc ?_ _)); exact BK304.out⟩, ⟨by (with_reducible repeat (first | refine blk_drewN ?_ _ | refine blk_drew ?_ | refine blk_alloc ?_ _)); exact BK305.out⟩, ⟨by (with_reducible repeat (first | refine blk_drewN ?_ _ | refine blk_drew ?_ | refine blk_alloc ?_ _)); exact BK306.out⟩, ⟨by repeat (first | (with_reducible first | exact HB.out | apply below_alloc | apply pw_below_drewN | apply below_drew1 | refine below_set ?_ GE304.out | refine below_set ?_ GE305.out | refine below_set ?_ GE306.out) | exact HB.out)⟩⟩
  ·rw [if_neg c9] at H
   have c9b0 : ((l0_0.length : Int) == (l0_1.length : Int)) = false := beq_eq_false_iff_ne.mpr c9
   have c9b1 : ((l0_0.length : Int) != (l0_1.length : Int)) = true := bne_iff_ne.mpr c9
   have c9b2 : (l0_0.length == l0_1.length) = false := by first | simpa using c9 | (simp at c9 ⊢; omega)
   (first | rw [c9b0] | (simp only [i64_w, i32_w]; rw [c9b0]) | skip)
   have H' := Aside0.mk H
   clear H
   have hnb13 := NB304_305.out
   have hnc13 := NB305_304.out
   have hnb14 := NB304_306.out
   have hnc14 := NB306_304.out
   have hcz15_0 : w8.cell? ⟨gb304, 0, none⟩ = some (.slice A0_0 l0_0.length c0_0) := (blk_cell BK304.out 0).trans rfl
   have hcz15_1 : w8.cell? ⟨gb304, 1, none⟩ = some (.slice A0_1 l0_1.length c0_1) := (blk_cell BK304.out 1).trans rfl
   have hfz15_0 := blk_frozen BK304.out 0
   have hfz15_1 := blk_frozen BK304.out 1
   go_wp2
   go_meet
   case rel => exact ⟨_, (true), (by first | rfl | (simp; done) | (simp [*]; done)), H', ⟨by first | omega | exact Nat.le_refl _⟩, ⟨by (with_reducible repeat (first | refine blk_drewN ?_ _ | refine blk_drew ?_ | refine blk_alloc ?_ _)); exact BK304.out⟩, ⟨by (with_reducible repeat (first | refine blk_drewN ?_ _ | refine blk_drew ?_ | refine blk_alloc ?_ _)); exact BK305.out⟩, ⟨by (with_reducible repeat (first | refine blk_drewN ?_ _ | refine blk_drew ?_ | refine blk_alloc ?_ _)); exact BK306.out⟩, ⟨by repeat (first | (with_reducible first | exact HB.out | apply below_alloc | apply pw_below_drewN | apply below_drew1 | refine below_set ?_ GE304.out | refine below_set ?_ GE305.out | refine below_set ?_ GE306.out) | exact HB.out)⟩⟩
 case rest =>
  clear HC5
  try clear c1
  try clear p2
  try clear c9
  try clear c9b0
  try clear c9b1
  try clear c9b2
  try clear c10
  try clear c11
  try clear c13
  try clear c14
  try clear hcz12_0
  try clear hcz12_1
  try clear hcz15_0
  try clear hcz15_1
  try clear hfz12_0
  try clear hfz12_1
  try clear hfz15_0
  try clear hfz15_1
  obtain ⟨kq, x28_4, rfl, HA, HJ4, BK304, BK305, BK306, HB⟩ := hcut
  cases kq with
  | zero => exact absurd HA.out (by simp [carouselref10_Apply.j0])
  | succ kj4 =>
   have H := HA.out
   clear HA
   simp only [carouselref10_Apply.j0] at H
   by_cases c16 : x28_4 = true
   ·subst c16
    have H1 : (some (([] : List Int), ([] : List Int), 4)) = some (r1, r2, r3) := by rw [if_pos rfl] at H; exact H
    clear H
    have H := H1
    clear H1
    simp only [Option.some.injEq, Prod.mk.injEq] at H
    obtain ⟨rfl, rfl, rfl⟩ := H
    have hnb17 := NB306_304.out
    have hnc17 := NB304_306.out
    have hnb18 := NB306_305.out
    have hnc18 := NB305_306.out
    have hcz19_0 : wc.cell? ⟨gb306, 0, none⟩ = some (.slice none 0 0) := (blk_cell BK306.out 0).trans rfl
    have hcz19_1 : wc.cell? ⟨gb306, 1, none⟩ = some (.slice none 0 0) := (blk_cell BK306.out 1).trans rfl
    have hfz19_0 := blk_frozen BK306.out 0
    have hfz19_1 := blk_frozen BK306.out 1
    go_wp2
    refine bodyPost_ret (results_ct rfl _ _ gb306 38 #[.slice none 0 0, .slice none 0 0] (0, 0) _ rfl (by (with_reducible repeat (first | refine blk_drewN ?_ _ | refine blk_drew ?_ | refine blk_alloc ?_ _)); refine blk_put (cs := #[.slice none 0 0, .slice none 0 0]) ?_ 1 _ rfl; (with_reducible repeat (first | refine blk_drewN ?_ _ | refine blk_drew ?_ | refine blk_alloc ?_ _)); refine blk_put (cs := #[.slice none 0 0, .slice none 0 0]) ?_ 0 _ rfl; (with_reducible repeat (first | refine blk_drewN ?_ _ | refine blk_drew ?_ | refine blk_alloc ?_ _)); exact BK306.out) Try.underlying38 rfl (by kernel_rfl)) rfl ?_
    exact ⟨_, _, by first | rfl | (simp [errW_none, errW_some] <;> rfl) | (simp [*, errW_none, errW_some] <;> rfl), by first | exact Kd.R_nil _ _ _ _ _ | exact Kd.N_nil _ _ _ _ _ | exact Kd.V_nil _ _ _ _ _ | exact Kd.Q_nil _ _ _ _ _ | exact Kd.S_nil _ _ _ _ _, by first | exact Kd.R_nil _ _ _ _ _ | exact Kd.N_nil _ _ _ _ _ | exact Kd.V_nil _ _ _ _ _ | exact Kd.Q_nil _ _ _ _ _ | exact Kd.S_nil _ _ _ _ _, by repeat (first | (with_reducible first | exact HB.out | apply below_alloc | apply pw_below_drewN | apply below_drew1 | refine below_set ?_ GE304.out | refine below_set ?_ GE305.out | refine below_set ?_ GE306.out) | exact HB.out)⟩
   ·replace c16 := Bool.eq_false_iff.mpr c16
    subst c16
    have H1 := H
    rw [if_neg (show ¬ (false = true) by decide)] at H1
    clear H
    have H := H1
    clear H1
    have HC20 := Aside0.mk H
    clear H
    go_upto_region 3 with (fail)
    go_cut [36] (fun v36 wc => ∃ (kq : Nat) (x36_19 : Bool), v36 = .bool x36_19 ∧ Aside0 (carouselref10_Apply.j1 kq l1 a2 x36_19 l0_0 l0_1 a3_0 a3_1 a3_2 = some (r1, r2, r3)) ∧ Aside0 (kq ≤ kj4) ∧ Aside0 (wc.heap[gb304]? = some (.cells #[(.slice A0_0 l0_0.length c0_0), (.slice A0_1 l0_1.length c0_1)] 38 (0, 0))) ∧ Aside0 (wc.heap[gb305]? = some (.cells #[.int .i64 a3_0, .int .i64 a3_1, .int .i64 a3_2] 41 (0, 0))) ∧ Aside0 (wc.heap[gb306]? = some (.cells #[(.slice none 0 0), (.slice none 0 0)] 38 (0, 0))) ∧ Aside0 (Below w.heap.size w wc))
    case first =>
     have H := HC20.out
     clear HC20
     by_cases c21 : a2 < 1
     ·rw [if_pos c21] at H
      have c21b0 : decide (a2 < 1) = true := decide_eq_true c21
      clear c21
      (first | rw [c21b0] | (simp only [i64_w, i32_w]; rw [c21b0]) | skip)
      have H' := Aside0.mk H
      clear H
      go_wp2
      go_meet
      case rel => exact ⟨_, (true), (by first | rfl | (simp; done) | (simp [*]; done)), H', ⟨by have := HJ4.out; first | omega | exact Nat.le_refl _⟩, ⟨by (with_reducible repeat (first | refine blk_drewN ?_ _ | refine blk_drew ?_ | refine blk_alloc ?_ _)); exact BK304.out⟩, ⟨by (with_reducible repeat (first | refine blk_drewN ?_ _ | refine blk_drew ?_ | refine blk_alloc ?_ _)); exact BK305.out⟩, ⟨by (with_reducible repeat (first | refine blk_drewN ?_ _ | refine blk_drew ?_ | refine blk_alloc ?_ _)); exact BK306.out⟩, ⟨by repeat (first | (with_reducible first | exact HB.out | apply below_alloc | apply pw_below_drewN | apply below_drew1 | refine below_set ?_ GE304.out | refine below_set ?_ GE305.out | refine below_set ?_ GE306.out) | exact HB.out)⟩⟩
     ·rw [if_neg c21] at H
      have c21b0 : decide (a2 < 1) = false := decide_eq_false c21
      clear c21
      (first | rw [c21b0] | (simp only [i64_w, i32_w]; rw [c21b0]) | skip)
      have H' := Aside0.mk H
      clear H
      have hnb22 := NB305_304.out
      have hnc22 := NB304_305.out
      have hnb23 := NB305_306.out
      have hnc23 := NB306_305.out
      have hcz24_0 : wc.cell? ⟨gb305, 0, none⟩ = some (.int .i64 a3_0) := (blk_cell BK305.out 0).trans rfl
      have hcz24_1 : wc.cell? ⟨gb305, 1, none⟩ = some (.int .i64 a3_1) := (blk_cell BK305.out 1).trans rfl
      have hcz24_2 : wc.cell? ⟨gb305, 2, none⟩ = some (.int .i64 a3_2) := (blk_cell BK305.out 2).trans rfl
      have hfz24_0 := blk_frozen BK305.out 0
      have hfz24_1 := blk_frozen BK305.out 1
      have hfz24_2 := blk_frozen BK305.out 2
      go_wp2
      go_meet
      case rel => exact ⟨_, (decide (a3_2 < 0)), (by first | rfl | (simp; done) | (simp [*]; done)), H', ⟨by have := HJ4.out; first | omega | exact Nat.le_refl _⟩, ⟨by (with_reducible repeat (first | refine blk_drewN ?_ _ | refine blk_drew ?_ | refine blk_alloc ?_ _)); exact BK304.out⟩, ⟨by (with_reducible repeat (first | refine blk_drewN ?_ _ | refine blk_drew ?_ | refine blk_alloc ?_ _)); exact BK305.out⟩, ⟨by (with_reducible repeat (first | refine blk_drewN ?_ _ | refine blk_drew ?_ | refine blk_alloc ?_ _)); exact BK306.out⟩, ⟨by repeat (first | (with_reducible first | exact HB.out | apply below_alloc | apply pw_below_drewN | apply below_drew1 | refine below_set ?_ GE304.out | refine below_set ?_ GE305.out | refine below_set ?_ GE306.out) | exact HB.out)⟩⟩
    case rest =>
     clear HC20
     try clear c1
     try clear c2
     try clear p2
     try clear c9
     try clear c9b0
     try clear c9b1
     try clear c9b2
     try clear c10
     try clear c11
     try clear c13
     try clear c14
     try clear c16
     try clear c17
     try clear c18
     try clear c21
     try clear c21b0
     try clear c22
     try clear c23
     try clear hcz12_0
     try clear hcz12_1
     try clear hcz15_0
     try clear hcz15_1
     try clear hcz19_0
     try clear hcz19_1
     try clear hcz24_0
     try clear hcz24_1
     try clear hcz24_2
     try clear hfz12_0
     try clear hfz12_1
     try clear hfz15_0
     try clear hfz15_1
     try clear hfz19_0
     try clear hfz19_1
     try clear hfz24_0
     try clear hfz24_1
     try clear hfz24_2
     try clear p2
     obtain ⟨kq, x36_19, rfl, HA, HJ19, BK304, BK305, BK306, HB⟩ := hcut
     cases kq with
     | zero => exact absurd HA.out (by simp [carouselref10_Apply.j1])
     | succ kj19 =>
      have H := HA.out
      clear HA
      simp only [carouselref10_Apply.j1] at H
      by_cases c25 : x36_19 = true
      ·subst c25
       have H1 : (some (([] : List Int), ([] : List Int), 1)) = some (r1, r2, r3) := by rw [if_pos rfl] at H; exact H
       clear H
       have H := H1
       clear H1
       simp only [Option.some.injEq, Prod.mk.injEq] at H
       obtain ⟨rfl, rfl, rfl⟩ := H
       have hnb26 := NB306_304.out
       have hnc26 := NB304_306.out
       have hnb27 := NB306_305.out
       have hnc27 := NB305_306.out
       have hcz28_0 : wc.cell? ⟨gb306, 0, none⟩ = some (.slice none 0 0) := (blk_cell BK306.out 0).trans rfl
       have hcz28_1 : wc.cell? ⟨gb306, 1, none⟩ = some (.slice none 0 0) := (blk_cell BK306.out 1).trans rfl
       have hfz28_0 := blk_frozen BK306.out 0
       have hfz28_1 := blk_frozen BK306.out 1
       go_wp2
       refine bodyPost_ret (results_ct rfl _ _ gb306 38 #[.slice none 0 0, .slice none 0 0] (0, 0) _ rfl (by (with_reducible repeat (first | refine blk_drewN ?_ _ | refine blk_drew ?_ | refine blk_alloc ?_ _)); refine blk_put (cs := #[.slice none 0 0, .slice none 0 0]) ?_ 1 _ rfl; (with_reducible repeat (first | refine blk_drewN ?_ _ | refine blk_drew ?_ | refine blk_alloc ?_ _)); refine blk_put (cs := #[.slice none 0 0, .slice none 0 0]) ?_ 0 _ rfl; (with_reducible repeat (first | refine blk_drewN ?_ _ | refine blk_drew ?_ | refine blk_alloc ?_ _)); exact BK306.out) Try.underlying38 rfl (by kernel_rfl)) rfl ?_
       exact ⟨_, _, by first | rfl | (simp [errW_none, errW_some] <;> rfl) | (simp [*, errW_none, errW_some] <;> rfl), by first | exact Kd.R_nil _ _ _ _ _ | exact Kd.N_nil _ _ _ _ _ | exact Kd.V_nil _ _ _ _ _ | exact Kd.Q_nil _ _ _ _ _ | exact Kd.S_nil _ _ _ _ _, by first | exact Kd.R_nil _ _ _ _ _ | exact Kd.N_nil _ _ _ _ _ | exact Kd.V_nil _ _ _ _ _ | exact Kd.Q_nil _ _ _ _ _ | exact Kd.S_nil _ _ _ _ _, by repeat (first | (with_reducible first | exact HB.out | apply below_alloc | apply pw_below_drewN | apply below_drew1 | refine below_set ?_ GE304.out | refine below_set ?_ GE305.out | refine below_set ?_ GE306.out) | exact HB.out)⟩
      ·replace c25 := Bool.eq_false_iff.mpr c25
       subst c25
       have H1 := H
       rw [if_neg (show ¬ (false = true) by decide)] at H1
       clear H
       have H := H1
       clear H1
       have H' := Aside0.mk H
       clear H
       go_wp2_with (first | ((with_reducible refine gate_dst (N := 10) rfl ?_); (try (refine gate_guard (by rfl) ?_; dsimp only)); refine box_event ?hg (N := 10) ?hd (cs := #[.slice none 0 0, .slice none 0 0]) (t := 38) ?hr ?_; (case hd => rfl); (case hg => rfl); (case hr => first | (go_simp; done) | (go_simp; rfl)); intro gb307 hg w29 hbox hb; have n0_ := Aside0.mk (blk_below (g := gb304) (o := .cells #[.slice A0_0 l0_0.length c0_0, .slice A0_1 l0_1.length c0_1] 38 (0, 0)) (by (with_reducible repeat (first | refine blk_drewN ?_ _ | refine blk_drew ?_ | refine blk_alloc ?_ _)); exact BK304.out) hb); have n1_ := Aside0.mk (blk_below (g := gb305) (o := .cells #[.int .i64 a3_0, .int .i64 a3_1, .int .i64 a3_2] 41 (0, 0)) (by (with_reducible repeat (first | refine blk_drewN ?_ _ | refine blk_drew ?_ | refine blk_alloc ?_ _)); exact BK305.out) hb); have n2_ := Aside0.mk (blk_below (g := gb306) (o := .cells #[.slice none 0 0, .slice none 0 0] 38 (0, 0)) (by (with_reducible repeat (first | refine blk_drewN ?_ _ | refine blk_drew ?_ | refine blk_alloc ?_ _)); exact BK306.out) hb); have n3_ := Aside0.mk (below_step (by repeat (first | (with_reducible first | exact HB.out | apply below_alloc | apply pw_below_drewN | apply below_drew1 | refine below_set ?_ GE304.out | refine below_set ?_ GE305.out | refine below_set ?_ GE306.out) | exact HB.out)) hb); have n4_ := Aside0.mk (hbox); have n5_ := Aside0.mk ((by rw [hg]; exact (below_size (by repeat (first | (with_reducible first | exact HB.out | apply below_alloc | apply pw_below_drewN | apply below_drew1 | refine below_set ?_ GE304.out | refine below_set ?_ GE305.out | refine below_set ?_ GE306.out) | exact HB.out))) : w.heap.size ≤ gb307)); have n6_ := Aside0.mk ((by rw [hg]; exact (below_size (by repeat (first | (with_reducible first | exact HB.out | apply below_alloc | apply pw_below_drewN | apply below_drew1 | refine below_set ?_ GE304.out | refine below_set ?_ GE305.out | refine below_set ?_ GE306.out) | exact HB.out))) : w.heap.size ≤ gb307)); have n7_ := Aside0.mk ((by rw [hg]; exact Nat.ne_of_lt (blk_lt (g := gb304) (o := .cells #[.slice A0_0 l0_0.length c0_0, .slice A0_1 l0_1.length c0_1] 38 (0, 0)) (by (with_reducible repeat (first | refine blk_drewN ?_ _ | refine blk_drew ?_ | refine blk_alloc ?_ _)); exact BK304.out)) : gb304 ≠ gb307)); have n8_ := Aside0.mk ((by rw [hg]; exact Nat.ne_of_gt (blk_lt (g := gb304) (o := .cells #[.slice A0_0 l0_0.length c0_0, .slice A0_1 l0_1.length c0_1] 38 (0, 0)) (by (with_reducible repeat (first | refine blk_drewN ?_ _ | refine blk_drew ?_ | refine blk_alloc ?_ _)); exact BK304.out)) : gb307 ≠ gb304)); have n9_ := Aside0.mk ((by rw [hg]; exact Nat.ne_of_lt (blk_lt (g := gb305) (o := .cells #[.int .i64 a3_0, .int .i64 a3_1, .int .i64 a3_2] 41 (0, 0)) (by (with_reducible repeat (first | refine blk_drewN ?_ _ | refine blk_drew ?_ | refine blk_alloc ?_ _)); exact BK305.out)) : gb305 ≠ gb307)); have n10_ := Aside0.mk ((by rw [hg]; exact Nat.ne_of_gt (blk_lt (g := gb305) (o := .cells #[.int .i64 a3_0, .int .i64 a3_1, .int .i64 a3_2] 41 (0, 0)) (by (with_reducible repeat (first | refine blk_drewN ?_ _ | refine blk_drew ?_ | refine blk_alloc ?_ _)); exact BK305.out)) : gb307 ≠ gb305)); have n11_ := Aside0.mk ((by rw [hg]; exact Nat.ne_of_lt (blk_lt (g := gb306) (o := .cells #[.slice none 0 0, .slice none 0 0] 38 (0, 0)) (by (with_reducible repeat (first | refine blk_drewN ?_ _ | refine blk_drew ?_ | refine blk_alloc ?_ _)); exact BK306.out)) : gb306 ≠ gb307)); have n12_ := Aside0.mk ((by rw [hg]; exact Nat.ne_of_gt (blk_lt (g := gb306) (o := .cells #[.slice none 0 0, .slice none 0 0] 38 (0, 0)) (by (with_reducible repeat (first | refine blk_drewN ?_ _ | refine blk_drew ?_ | refine blk_alloc ?_ _)); exact BK306.out)) : gb307 ≠ gb306)); clear BK304; clear BK305; clear BK306; clear HB; have BK304 := n0_; have BK305 := n1_; have BK306 := n2_; have HB := n3_; have BK307 := n4_; have GW307 := n5_; have GE307 := n6_; have NB304_307 := n7_; have NB307_304 := n8_; have NB305_307 := n9_; have NB307_305 := n10_; have NB306_307 := n11_; have NB307_306 := n12_; clear n0_ n1_ n2_ n3_ n4_ n5_ n6_ n7_ n8_ n9_ n10_ n11_ n12_; clear hb hbox hg; have hnb30 := NB307_304.out; have hnc30 := NB304_307.out; have hnb31 := NB307_305.out; have hnc31 := NB305_307.out; have hnb32 := NB307_306.out; have hnc32 := NB306_307.out; have hcz33_0 : w29.cell? ⟨gb307, 0, none⟩ = some (.slice none 0 0) := (blk_cell BK307.out 0).trans rfl; have hcz33_1 : w29.cell? ⟨gb307, 1, none⟩ = some (.slice none 0 0) := (blk_cell BK307.out 1).trans rfl; have hfz33_0 := blk_frozen BK307.out 0; have hfz33_1 := blk_frozen BK307.out 1))
       go_loopg [11] kj19 (fun kq v11 w' => ∃ (x11_3 : Int) (x308000_3 : List Int) (x308001_3 : List Int) (u308000 : Value) (u308001 : Value), v11 = .int .i64 x11_3 ∧ Aside0 (carouselref10_Apply.l0 kq l1 a2 x11_3 l0_0 l0_1 a3_0 a3_1 a3_2 x308000_3 x308001_3 = some (r1, r2, r3)) ∧ Aside0 (kq ≤ kj19) ∧ Aside0 (Kd.R (Kd.int .i64) 27 w' w.heap.size (fun k_ => some k_ ≠ (u308001 : Value).ownBlock) u308000 x308000_3) ∧ Aside0 (Kd.R (Kd.int .i64) 27 w' w.heap.size (fun k_ => some k_ ≠ (u308000 : Value).ownBlock) u308001 x308001_3) ∧ Aside0 (w'.heap[gb304]? = some (.cells #[(.slice A0_0 l0_0.length c0_0), (.slice A0_1 l0_1.length c0_1)] 38 (0, 0))) ∧ Aside0 (w'.heap[gb305]? = some (.cells #[.int .i64 a3_0, .int .i64 a3_1, .int .i64 a3_2] 41 (0, 0))) ∧ Aside0 (w'.heap[gb306]? = some (.cells #[(.slice none 0 0), (.slice none 0 0)] 38 (0, 0))) ∧ Aside0 (w'.heap[gb307]? = some (.cells #[u308000, u308001] 38 (0, 0))) ∧ Aside0 (Below w.heap.size w w'))
       case atStart => exact ⟨(0), (([] : List Int)), (([] : List Int)), (.slice none 0 0), (.slice none 0 0), (by first | rfl | (simp; done) | (simp [*]; done)), H', ⟨Nat.le_refl _⟩, ⟨by first | exact Kd.R_nil _ _ _ _ _ | exact Kd.N_nil _ _ _ _ _ | exact Kd.V_nil _ _ _ _ _ | exact Kd.Q_nil _ _ _ _ _ | exact Kd.S_nil _ _ _ _ _⟩, ⟨by first | exact Kd.R_nil _ _ _ _ _ | exact Kd.N_nil _ _ _ _ _ | exact Kd.V_nil _ _ _ _ _ | exact Kd.Q_nil _ _ _ _ _ | exact Kd.S_nil _ _ _ _ _⟩, ⟨by (with_reducible repeat (first | refine blk_drewN ?_ _ | refine blk_drew ?_ | refine blk_alloc ?_ _)); refine blk_far ?_ NB304_307.out _; (with_reducible repeat (first | refine blk_drewN ?_ _ | refine blk_drew ?_ | refine blk_alloc ?_ _)); refine blk_far ?_ NB304_307.out _; (with_reducible repeat (first | refine blk_drewN ?_ _ | refine blk_drew ?_ | refine blk_alloc ?_ _)); exact BK304.out⟩, ⟨by (with_reducible repeat (first | refine blk_drewN ?_ _ | refine blk_drew ?_ | refine blk_alloc ?_ _)); refine blk_far ?_ NB305_307.out _; (with_reducible repeat (first | refine blk_drewN ?_ _ | refine blk_drew ?_ | refine blk_alloc ?_ _)); refine blk_far ?_ NB305_307.out _; (with_reducible repeat (first | refine blk_drewN ?_ _ | refine blk_drew ?_ | refine blk_alloc ?_ _)); exact BK305.out⟩, ⟨by (with_reducible repeat (first | refine blk_drewN ?_ _ | refine blk_drew ?_ | refine blk_alloc ?_ _)); refine blk_far ?_ NB306_307.out _; (with_reducible repeat (first | refine blk_drewN ?_ _ | refine blk_drew ?_ | refine blk_alloc ?_ _)); refine blk_far ?_ NB306_307.out _; (with_reducible repeat (first | refine blk_drewN ?_ _ | refine blk_drew ?_ | refine blk_alloc ?_ _)); exact BK306.out⟩, ⟨by (with_reducible repeat (first | refine blk_drewN ?_ _ | refine blk_drew ?_ | refine blk_alloc ?_ _)); refine blk_put (cs := #[.slice none 0 0, .slice none 0 0]) ?_ 1 _ rfl; (with_reducible repeat (first | refine blk_drewN ?_ _ | refine blk_drew ?_ | refine blk_alloc ?_ _)); refine blk_put (cs := #[.slice none 0 0, .slice none 0 0]) ?_ 0 _ rfl; (with_reducible repeat (first | refine blk_drewN ?_ _ | refine blk_drew ?_ | refine blk_alloc ?_ _)); exact BK307.out⟩, ⟨by repeat (first | (with_reducible first | exact HB.out | apply below_alloc | apply pw_below_drewN | apply below_drew1 | refine below_set ?_ GE304.out | refine below_set ?_ GE305.out | refine below_set ?_ GE306.out | refine below_set ?_ GE307.out) | exact HB.out)⟩⟩
       case round =>
        clear H'
        try clear c1
        try clear c2
        try clear p2
        try clear c3
        try clear c9
        try clear c9b0
        try clear c9b1
        try clear c9b2
        try clear c10
        try clear c11
        try clear c13
        try clear c14
        try clear c16
        try clear c17
        try clear c18
        try clear c21
        try clear c21b0
        try clear c22
        try clear c23
        try clear c25
        try clear c26
        try clear c27
        try clear c30
        try clear c31
        try clear c32
        try clear hcz12_0
        try clear hcz12_1
        try clear hcz15_0
        try clear hcz15_1
        try clear hcz19_0
        try clear hcz19_1
        try clear hcz24_0
        try clear hcz24_1
        try clear hcz24_2
        try clear hcz28_0
        try clear hcz28_1
        try clear hcz33_0
        try clear hcz33_1
        try clear hfz12_0
        try clear hfz12_1
        try clear hfz15_0
        try clear hfz15_1
        try clear hfz19_0
        try clear hfz19_1
        try clear hfz24_0
        try clear hfz24_1
        try clear hfz24_2
        try clear hfz28_0
        try clear hfz28_1
        try clear hfz33_0
        try clear hfz33_1
        try clear p2
        obtain ⟨x11_3, x308000_3, x308001_3, u308000, u308001, rfl, HA, HK3, HO_308000, HO_308001, BK304, BK305, BK306, BK307, HB⟩ := hrel
        cases gk with
        | zero => exact absurd HA.out (by simp [carouselref10_Apply.l0])
        | succ k3 =>
         have H := HA.out
         clear HA
         simp only [carouselref10_Apply.l0] at H
         by_cases c34 : x11_3 < (l1.length : Int)
         ·rw [if_pos c34] at H
          have c34b0 : decide (x11_3 < (l1.length : Int)) = true := decide_eq_true c34
          clear c34
          by_cases c35 : 0 ≤ x11_3
          ·rw [if_pos c35] at H
           have c35b0 : decide (0 ≤ x11_3) = true := decide_eq_true c35
           clear c35
           replace H := Option.bind_eq_some_iff.mp H
           obtain ⟨t309, A360, H⟩ := H
           (try dsimp only at H)
           have A36 := Aside0.mk A360
           clear A360
           have HC37 := Aside0.mk H
           clear H
           have p308 : 0 ≤ (x11_3 : Int) := of_decide_eq_true (by first | (with_reducible assumption) | assumption)
           have q308 : x11_3 < (l1.length : Int) := of_decide_eq_true (by first | (with_reducible assumption) | assumption)
           obtain ⟨ad308, e308, hx308_0, hx308_1⟩ := at_T30 HR1.out x11_3 p308 q308
           cases e308
           replace hx308_0 := (HB.out.cell (World.block_lt_of_cell? w _ hx308_0)).trans hx308_0
           replace hx308_1 := (HB.out.cell (World.block_lt_of_cell? w _ hx308_1)).trans hx308_1
           replace p308 := eq_true p308
           replace q308 := eq_true q308
           go_upto_region 10 with (first | ((with_reducible refine gate_callee (f := 25) rfl ?_); refine goesL_ (some 50) rfl rfl Try.func25 (by kernel_rfl) rfl #[.agg #[.int .i64 ((rd_T30 l1 x11_3).f0), .int .u64 ((rd_T30 l1 x11_3).f1)], .int .i64 a2] rfl (by (try simp only [List.map_toArray, List.map_cons, List.map_nil]); first | done | rfl | (simp only [List.length_drop, List.length_take]; rfl)) ?_; (with_reducible refine (carouselref1_Over.calls k3 ((rd_T30 l1 x11_3).f0) ((rd_T30 l1 x11_3).f1) a2 t309 _ A36.out).mono ?_); rintro e w38 ⟨rfl, hb⟩; refine ⟨_, rfl, ?_⟩; have n0_ := Aside0.mk (Kd.R_below (by (with_reducible repeat (first | apply Kd.R_alloc | apply Kd.R_drewN | apply Kd.R_drew)); exact HO_308000.out) hb); have n1_ := Aside0.mk (Kd.R_below (by (with_reducible repeat (first | apply Kd.R_alloc | apply Kd.R_drewN | apply Kd.R_drew)); exact HO_308001.out) hb); have n2_ := Aside0.mk (blk_below (g := gb304) (o := .cells #[.slice A0_0 l0_0.length c0_0, .slice A0_1 l0_1.length c0_1] 38 (0, 0)) (by (with_reducible repeat (first | refine blk_drewN ?_ _ | refine blk_drew ?_ | refine blk_alloc ?_ _)); exact BK304.out) hb); have n3_ := Aside0.mk (blk_below (g := gb305) (o := .cells #[.int .i64 a3_0, .int .i64 a3_1, .int .i64 a3_2] 41 (0, 0)) (by (with_reducible repeat (first | refine blk_drewN ?_ _ | refine blk_drew ?_ | refine blk_alloc ?_ _)); exact BK305.out) hb); have n4_ := Aside0.mk (blk_below (g := gb306) (o := .cells #[.slice none 0 0, .slice none 0 0] 38 (0, 0)) (by (with_reducible repeat (first | refine blk_drewN ?_ _ | refine blk_drew ?_ | refine blk_alloc ?_ _)); exact BK306.out) hb); have n5_ := Aside0.mk (blk_below (g := gb307) (o := .cells #[u308000, u308001] 38 (0, 0)) (by (with_reducible repeat (first | refine blk_drewN ?_ _ | refine blk_drew ?_ | refine blk_alloc ?_ _)); exact BK307.out) hb); have n6_ := Aside0.mk (below_step (by repeat (first | (with_reducible first | exact HB.out | apply below_alloc | apply pw_below_drewN | apply below_drew1 | refine below_set ?_ GE304.out | refine below_set ?_ GE305.out | refine below_set ?_ GE306.out | refine below_set ?_ GE307.out) | exact HB.out)) hb); clear HO_308000; clear HO_308001; clear BK304; clear BK305; clear BK306; clear BK307; clear HB; have HO_308000 := n0_; have HO_308001 := n1_; have BK304 := n2_; have BK305 := n3_; have BK306 := n4_; have BK307 := n5_; have HB := n6_; clear n0_ n1_ n2_ n3_ n4_ n5_ n6_; (try clear hb); (try clear hb2); (try clear hk); (try clear hi)))
           (try simp only [Act.put, List.setIfInBounds_toArray, List.set_cons_zero, List.set_cons_succ])
           go_cut [59] (fun v59 wc => ∃ (kq : Nat) (x59_36 : Bool), v59 = .bool x59_36 ∧ Aside0 (carouselref10_Apply.j3 kq l1 a2 x11_3 t309 x59_36 l0_0 l0_1 a3_0 a3_1 a3_2 x308000_3 x308001_3 = some (r1, r2, r3)) ∧ Aside0 (kq ≤ k3) ∧ Aside0 (Kd.R (Kd.int .i64) 27 wc w.heap.size (fun k_ => some k_ ≠ (u308001 : Value).ownBlock) u308000 x308000_3) ∧ Aside0 (Kd.R (Kd.int .i64) 27 wc w.heap.size (fun k_ => some k_ ≠ (u308000 : Value).ownBlock) u308001 x308001_3) ∧ Aside0 (wc.heap[gb304]? = some (.cells #[(.slice A0_0 l0_0.length c0_0), (.slice A0_1 l0_1.length c0_1)] 38 (0, 0))) ∧ Aside0 (wc.heap[gb305]? = some (.cells #[.int .i64 a3_0, .int .i64 a3_1, .int .i64 a3_2] 41 (0, 0))) ∧ Aside0 (wc.heap[gb306]? = some (.cells #[(.slice none 0 0), (.slice none 0 0)] 38 (0, 0))) ∧ Aside0 (wc.heap[gb307]? = some (.cells #[u308000, u308001] 38 (0, 0))) ∧ Aside0 (Below w.heap.size w wc))
           case first =>
            have H := HC37.out
            clear HC37
            by_cases c39 : a3_2 > 0
            ·rw [if_pos c39] at H
             have c39b0 : decide (0 < a3_2) = true := decide_eq_true c39
             clear c39
             (first | rw [c39b0] | (simp only [i64_w, i32_w]; rw [c39b0]) | skip)
             have H' := Aside0.mk H
             clear H
             have hnb40 := NB305_304.out
             have hnc40 := NB304_305.out
             have hnb41 := NB305_306.out
             have hnc41 := NB306_305.out
             have hnb42 := NB305_307.out
             have hnc42 := NB307_305.out
             have hcz43_0 : w38.cell? ⟨gb305, 0, none⟩ = some (.int .i64 a3_0) := (blk_cell BK305.out 0).trans rfl
             have hcz43_1 : w38.cell? ⟨gb305, 1, none⟩ = some (.int .i64 a3_1) := (blk_cell BK305.out 1).trans rfl
             have hcz43_2 : w38.cell? ⟨gb305, 2, none⟩ = some (.int .i64 a3_2) := (blk_cell BK305.out 2).trans rfl
             have hfz43_0 := blk_frozen BK305.out 0
             have hfz43_1 := blk_frozen BK305.out 1
             have hfz43_2 := blk_frozen BK305.out 2
             go_wp2
             go_meet
             case rel => exact ⟨_, (decide (t309 > a3_2)), (by first | rfl | (simp; done) | (simp [*]; done)), H', ⟨by have := HJ4.out; have := HJ19.out; have := HK3.out; first | omega | exact Nat.le_refl _⟩, ⟨by (with_reducible repeat (first | apply Kd.R_alloc | apply Kd.R_drewN | apply Kd.R_drew)); exact HO_308000.out⟩, ⟨by (with_reducible repeat (first | apply Kd.R_alloc | apply Kd.R_drewN | apply Kd.R_drew)); exact HO_308001.out⟩, ⟨by (with_reducible repeat (first | refine blk_drewN ?_ _ | refine blk_drew ?_ | refine blk_alloc ?_ _)); exact BK304.out⟩, ⟨by (with_reducible repeat (first | refine blk_drewN ?_ _ | refine blk_drew ?_ | refine blk_alloc ?_ _)); exact BK305.out⟩, ⟨by (with_reducible repeat (first | refine blk_drewN ?_ _ | refine blk_drew ?_ | refine blk_alloc ?_ _)); exact BK306.out⟩, ⟨by (with_reducible repeat (first | refine blk_drewN ?_ _ | refine blk_drew ?_ | refine blk_alloc ?_ _)); exact BK307.out⟩, ⟨by repeat (first | (with_reducible first | exact HB.out | apply below_alloc | apply pw_below_drewN | apply below_drew1 | refine below_set ?_ GE304.out | refine below_set ?_ GE305.out | refine below_set ?_ GE306.out | refine below_set ?_ GE307.out) | exact HB.out)⟩⟩
            ·rw [if_neg c39] at H
             have c39b0 : decide (0 < a3_2) = false := decide_eq_false c39
             clear c39
             (first | rw [c39b0] | (simp only [i64_w, i32_w]; rw [c39b0]) | skip)
             have H' := Aside0.mk H
             clear H
             have hnb44 := NB305_304.out
             have hnc44 := NB304_305.out
             have hnb45 := NB305_306.out
             have hnc45 := NB306_305.out
             have hnb46 := NB305_307.out
             have hnc46 := NB307_305.out
             have hcz47_0 : w38.cell? ⟨gb305, 0, none⟩ = some (.int .i64 a3_0) := (blk_cell BK305.out 0).trans rfl
             have hcz47_1 : w38.cell? ⟨gb305, 1, none⟩ = some (.int .i64 a3_1) := (blk_cell BK305.out 1).trans rfl
             have hcz47_2 : w38.cell? ⟨gb305, 2, none⟩ = some (.int .i64 a3_2) := (blk_cell BK305.out 2).trans rfl
             have hfz47_0 := blk_frozen BK305.out 0
             have hfz47_1 := blk_frozen BK305.out 1
             have hfz47_2 := blk_frozen BK305.out 2
             go_wp2
             go_meet
             case rel => exact ⟨_, (false), (by first | rfl | (simp; done) | (simp [*]; done)), H', ⟨by have := HJ4.out; have := HJ19.out; have := HK3.out; first | omega | exact Nat.le_refl _⟩, ⟨by (with_reducible repeat (first | apply Kd.R_alloc | apply Kd.R_drewN | apply Kd.R_drew)); exact HO_308000.out⟩, ⟨by (with_reducible repeat (first | apply Kd.R_alloc | apply Kd.R_drewN | apply Kd.R_drew)); exact HO_308001.out⟩, ⟨by (with_reducible repeat (first | refine blk_drewN ?_ _ | refine blk_drew ?_ | refine blk_alloc ?_ _)); exact BK304.out⟩, ⟨by (with_reducible repeat (first | refine blk_drewN ?_ _ | refine blk_drew ?_ | refine blk_alloc ?_ _)); exact BK305.out⟩, ⟨by (with_reducible repeat (first | refine blk_drewN ?_ _ | refine blk_drew ?_ | refine blk_alloc ?_ _)); exact BK306.out⟩, ⟨by (with_reducible repeat (first | refine blk_drewN ?_ _ | refine blk_drew ?_ | refine blk_alloc ?_ _)); exact BK307.out⟩, ⟨by repeat (first | (with_reducible first | exact HB.out | apply below_alloc | apply pw_below_drewN | apply below_drew1 | refine below_set ?_ GE304.out | refine below_set ?_ GE305.out | refine below_set ?_ GE306.out | refine below_set ?_ GE307.out) | exact HB.out)⟩⟩
           case rest =>
            clear HC37
            try clear c1
            try clear c2
            try clear p2
            try clear c3
            try clear p3
            try clear q3
            try clear hx3
            try clear c4
            try clear c9
            try clear c9b0
            try clear c9b1
            try clear c9b2
            try clear c10
            try clear c11
            try clear c13
            try clear c14
            try clear c16
            try clear c17
            try clear c18
            try clear c21
            try clear c21b0
            try clear c22
            try clear c23
            try clear c25
            try clear c26
            try clear c27
            try clear c30
            try clear p30
            try clear q30
            try clear hx30
            try clear c31
            try clear c32
            try clear c34
            try clear c34b0
            try clear c35
            try clear c35b0
            try clear c39
            try clear c39b0
            try clear c40
            try clear c41
            try clear c42
            try clear c44
            try clear c45
            try clear c46
            try clear hcz12_0
            try clear hcz12_1
            try clear hcz15_0
            try clear hcz15_1
            try clear hcz19_0
            try clear hcz19_1
            try clear hcz24_0
            try clear hcz24_1
            try clear hcz24_2
            try clear hcz28_0
            try clear hcz28_1
            try clear hcz33_0
            try clear hcz33_1
            try clear hcz43_0
            try clear hcz43_1
            try clear hcz43_2
            try clear hcz47_0
            try clear hcz47_1
            try clear hcz47_2
            try clear hfz12_0
            try clear hfz12_1
            try clear hfz15_0
            try clear hfz15_1
            try clear hfz19_0
            try clear hfz19_1
            try clear hfz24_0
            try clear hfz24_1
            try clear hfz24_2
            try clear hfz28_0
            try clear hfz28_1
            try clear hfz33_0
            try clear hfz33_1
            try clear hfz43_0
            try clear hfz43_1
            try clear hfz43_2
            try clear hfz47_0
            try clear hfz47_1
            try clear hfz47_2
            try clear hx308_0
            try clear hx308_1
            try clear p2
            try clear p308
            try clear q308
            obtain ⟨kq, x59_36, rfl, HA, HJ36, HO_308000, HO_308001, BK304, BK305, BK306, BK307, HB⟩ := hcut
            cases kq with
            | zero => exact absurd HA.out (by simp [carouselref10_Apply.j3])
            | succ kj36 =>
             have H := HA.out
             clear HA
             simp only [carouselref10_Apply.j3] at H
             have HC48 := Aside0.mk H
             clear H
             go_upto_if 59 with (fail)
             go_cut [12] (fun v12 wc => ∃ (kq : Nat) (x12_47 : Int), v12 = .int .i64 x12_47 ∧ Aside0 (carouselref10_Apply.j4 kq l1 a2 x11_3 x12_47 l0_0 l0_1 a3_0 a3_1 a3_2 x308000_3 x308001_3 = some (r1, r2, r3)) ∧ Aside0 (kq ≤ kj36) ∧ Aside0 (Kd.R (Kd.int .i64) 27 wc w.heap.size (fun k_ => some k_ ≠ (u308001 : Value).ownBlock) u308000 x308000_3) ∧ Aside0 (Kd.R (Kd.int .i64) 27 wc w.heap.size (fun k_ => some k_ ≠ (u308000 : Value).ownBlock) u308001 x308001_3) ∧ Aside0 (wc.heap[gb304]? = some (.cells #[(.slice A0_0 l0_0.length c0_0), (.slice A0_1 l0_1.length c0_1)] 38 (0, 0))) ∧ Aside0 (wc.heap[gb305]? = some (.cells #[.int .i64 a3_0, .int .i64 a3_1, .int .i64 a3_2] 41 (0, 0))) ∧ Aside0 (wc.heap[gb306]? = some (.cells #[(.slice none 0 0), (.slice none 0 0)] 38 (0, 0))) ∧ Aside0 (wc.heap[gb307]? = some (.cells #[u308000, u308001] 38 (0, 0))) ∧ Aside0 (Below w.heap.size w wc))
             case first =>
              have H := HC48.out
              clear HC48
              by_cases c49 : x59_36 = true
              ·subst c49
               have H1 := H
               rw [if_pos rfl] at H1
               clear H
               have H := H1
               clear H1
               have H' := Aside0.mk H
               clear H
               have hnb50 := NB305_304.out
               have hnc50 := NB304_305.out
               have hnb51 := NB305_306.out
               have hnc51 := NB306_305.out
               have hnb52 := NB305_307.out
               have hnc52 := NB307_305.out
               have hcz53_0 : wc.cell? ⟨gb305, 0, none⟩ = some (.int .i64 a3_0) := (blk_cell BK305.out 0).trans rfl
               have hcz53_1 : wc.cell? ⟨gb305, 1, none⟩ = some (.int .i64 a3_1) := (blk_cell BK305.out 1).trans rfl
               have hcz53_2 : wc.cell? ⟨gb305, 2, none⟩ = some (.int .i64 a3_2) := (blk_cell BK305.out 2).trans rfl
               have hfz53_0 := blk_frozen BK305.out 0
               have hfz53_1 := blk_frozen BK305.out 1
               have hfz53_2 := blk_frozen BK305.out 2
               go_wp2
               go_meet
               case rel => exact ⟨_, (a3_2), (by first | rfl | (simp; done) | (simp [*]; done)), H', ⟨by have := HJ4.out; have := HJ19.out; have := HK3.out; have := HJ36.out; first | omega | exact Nat.le_refl _⟩, ⟨by (with_reducible repeat (first | apply Kd.R_alloc | apply Kd.R_drewN | apply Kd.R_drew)); exact HO_308000.out⟩, ⟨by (with_reducible repeat (first | apply Kd.R_alloc | apply Kd.R_drewN | apply Kd.R_drew)); exact HO_308001.out⟩, ⟨by (with_reducible repeat (first | refine blk_drewN ?_ _ | refine blk_drew ?_ | refine blk_alloc ?_ _)); exact BK304.out⟩, ⟨by (with_reducible repeat (first | refine blk_drewN ?_ _ | refine blk_drew ?_ | refine blk_alloc ?_ _)); exact BK305.out⟩, ⟨by (with_reducible repeat (first | refine blk_drewN ?_ _ | refine blk_drew ?_ | refine blk_alloc ?_ _)); exact BK306.out⟩, ⟨by (with_reducible repeat (first | refine blk_drewN ?_ _ | refine blk_drew ?_ | refine blk_alloc ?_ _)); exact BK307.out⟩, ⟨by repeat (first | (with_reducible first | exact HB.out | apply below_alloc | apply pw_below_drewN | apply below_drew1 | refine below_set ?_ GE304.out | refine below_set ?_ GE305.out | refine below_set ?_ GE306.out | refine below_set ?_ GE307.out) | exact HB.out)⟩⟩
              ·replace c49 := Bool.eq_false_iff.mpr c49
               subst c49
               have H1 := H
               rw [if_neg (show ¬ (false = true) by decide)] at H1
               clear H
               have H := H1
               clear H1
               have H' := Aside0.mk H
               clear H
               go_wp2
               go_meet
               case rel => exact ⟨_, (t309), (by first | rfl | (simp; done) | (simp [*]; done)), H', ⟨by have := HJ4.out; have := HJ19.out; have := HK3.out; have := HJ36.out; first | omega | exact Nat.le_refl _⟩, ⟨by (with_reducible repeat (first | apply Kd.R_alloc | apply Kd.R_drewN | apply Kd.R_drew)); exact HO_308000.out⟩, ⟨by (with_reducible repeat (first | apply Kd.R_alloc | apply Kd.R_drewN | apply Kd.R_drew)); exact HO_308001.out⟩, ⟨by (with_reducible repeat (first | refine blk_drewN ?_ _ | refine blk_drew ?_ | refine blk_alloc ?_ _)); exact BK304.out⟩, ⟨by (with_reducible repeat (first | refine blk_drewN ?_ _ | refine blk_drew ?_ | refine blk_alloc ?_ _)); exact BK305.out⟩, ⟨by (with_reducible repeat (first | refine blk_drewN ?_ _ | refine blk_drew ?_ | refine blk_alloc ?_ _)); exact BK306.out⟩, ⟨by (with_reducible repeat (first | refine blk_drewN ?_ _ | refine blk_drew ?_ | refine blk_alloc ?_ _)); exact BK307.out⟩, ⟨by repeat (first | (with_reducible first | exact HB.out | apply below_alloc | apply pw_below_drewN | apply below_drew1 | refine below_set ?_ GE304.out | refine below_set ?_ GE305.out | refine below_set ?_ GE306.out | refine below_set ?_ GE307.out) | exact HB.out)⟩⟩
             case rest =>
              clear HC48
              try clear c1
              try clear c2
              try clear p2
              try clear c3
              try clear p3
              try clear q3
              try clear hx3
              try clear c4
              try clear c5
              try clear c9
              try clear c9b0
              try clear c9b1
              try clear c9b2
              try clear c10
              try clear c11
              try clear c13
              try clear c14
              try clear c16
              try clear c17
              try clear c18
              try clear c21
              try clear c21b0
              try clear c22
              try clear c23
              try clear c25
              try clear c26
              try clear c27
              try clear c30
              try clear p30
              try clear q30
              try clear hx30
              try clear c31
              try clear c32
              try clear c34
              try clear c34b0
              try clear c35
              try clear c35b0
              try clear c39
              try clear c39b0
              try clear c40
              try clear c41
              try clear c42
              try clear c44
              try clear c45
              try clear c46
              try clear c49
              try clear c50
              try clear c51
              try clear c52
              try clear hcz12_0
              try clear hcz12_1
              try clear hcz15_0
              try clear hcz15_1
              try clear hcz19_0
              try clear hcz19_1
              try clear hcz24_0
              try clear hcz24_1
              try clear hcz24_2
              try clear hcz28_0
              try clear hcz28_1
              try clear hcz33_0
              try clear hcz33_1
              try clear hcz43_0
              try clear hcz43_1
              try clear hcz43_2
              try clear hcz47_0
              try clear hcz47_1
              try clear hcz47_2
              try clear hcz53_0
              try clear hcz53_1
              try clear hcz53_2
              try clear hfz12_0
              try clear hfz12_1
              try clear hfz15_0
              try clear hfz15_1
              try clear hfz19_0
              try clear hfz19_1
              try clear hfz24_0
              try clear hfz24_1
              try clear hfz24_2
              try clear hfz28_0
              try clear hfz28_1
              try clear hfz33_0
              try clear hfz33_1
              try clear hfz43_0
              try clear hfz43_1
              try clear hfz43_2
              try clear hfz47_0
              try clear hfz47_1
              try clear hfz47_2
              try clear hfz53_0
              try clear hfz53_1
              try clear hfz53_2
              try clear hx308_0
              try clear hx308_1
              try clear p2
              try clear p3
              try clear p30
              try clear p308
              try clear q3
              try clear q30
              try clear q308
              obtain ⟨kq, x12_47, rfl, HA, HJ47, HO_308000, HO_308001, BK304, BK305, BK306, BK307, HB⟩ := hcut
              cases kq with
              | zero => exact absurd HA.out (by simp [carouselref10_Apply.j4])
              | succ kj47 =>
               have H := HA.out
               clear HA
               simp only [carouselref10_Apply.j4] at H
               have HC54 := Aside0.mk H
               clear H
               go_upto_region 12 with (fail)
               go_cut [71] (fun v71 wc => ∃ (kq : Nat) (x71_53 : Bool), v71 = .bool x71_53 ∧ Aside0 (carouselref10_Apply.j5 kq l1 a2 x11_3 x12_47 x71_53 l0_0 l0_1 a3_0 a3_1 a3_2 x308000_3 x308001_3 = some (r1, r2, r3)) ∧ Aside0 (kq ≤ kj47) ∧ Aside0 (Kd.R (Kd.int .i64) 27 wc w.heap.size (fun k_ => some k_ ≠ (u308001 : Value).ownBlock) u308000 x308000_3) ∧ Aside0 (Kd.R (Kd.int .i64) 27 wc w.heap.size (fun k_ => some k_ ≠ (u308000 : Value).ownBlock) u308001 x308001_3) ∧ Aside0 (wc.heap[gb304]? = some (.cells #[(.slice A0_0 l0_0.length c0_0), (.slice A0_1 l0_1.length c0_1)] 38 (0, 0))) ∧ Aside0 (wc.heap[gb305]? = some (.cells #[.int .i64 a3_0, .int .i64 a3_1, .int .i64 a3_2] 41 (0, 0))) ∧ Aside0 (wc.heap[gb306]? = some (.cells #[(.slice none 0 0), (.slice none 0 0)] 38 (0, 0))) ∧ Aside0 (wc.heap[gb307]? = some (.cells #[u308000, u308001] 38 (0, 0))) ∧ Aside0 (Below w.heap.size w wc))
               case first =>
                have H := HC54.out
                clear HC54
                by_cases c55 : a3_2 > 0
                ·rw [if_pos c55] at H
                 have c55b0 : decide (0 < a3_2) = true := decide_eq_true c55
                 clear c55
                 (first | rw [c55b0] | (simp only [i64_w, i32_w]; rw [c55b0]) | skip)
                 have H' := Aside0.mk H
                 clear H
                 have hnb56 := NB305_304.out
                 have hnc56 := NB304_305.out
                 have hnb57 := NB305_306.out
                 have hnc57 := NB306_305.out
                 have hnb58 := NB305_307.out
                 have hnc58 := NB307_305.out
                 have hcz59_0 : wc.cell? ⟨gb305, 0, none⟩ = some (.int .i64 a3_0) := (blk_cell BK305.out 0).trans rfl
                 have hcz59_1 : wc.cell? ⟨gb305, 1, none⟩ = some (.int .i64 a3_1) := (blk_cell BK305.out 1).trans rfl
                 have hcz59_2 : wc.cell? ⟨gb305, 2, none⟩ = some (.int .i64 a3_2) := (blk_cell BK305.out 2).trans rfl
                 have hfz59_0 := blk_frozen BK305.out 0
                 have hfz59_1 := blk_frozen BK305.out 1
                 have hfz59_2 := blk_frozen BK305.out 2
                 go_wp2
                 go_meet
                 case rel => exact ⟨_, (decide (x12_47 < (wrap64 (-a3_2)))), (by first | rfl | (simp; done) | (simp [*]; done)), H', ⟨by have := HJ4.out; have := HJ19.out; have := HK3.out; have := HJ36.out; have := HJ47.out; first | omega | exact Nat.le_refl _⟩, ⟨by (with_reducible repeat (first | apply Kd.R_alloc | apply Kd.R_drewN | apply Kd.R_drew)); exact HO_308000.out⟩, ⟨by (with_reducible repeat (first | apply Kd.R_alloc | apply Kd.R_drewN | apply Kd.R_drew)); exact HO_308001.out⟩, ⟨by (with_reducible repeat (first | refine blk_drewN ?_ _ | refine blk_drew ?_ | refine blk_alloc ?_ _)); exact BK304.out⟩, ⟨by (with_reducible repeat (first | refine blk_drewN ?_ _ | refine blk_drew ?_ | refine blk_alloc ?_ _)); exact BK305.out⟩, ⟨by (with_reducible repeat (first | refine blk_drewN ?_ _ | refine blk_drew ?_ | refine blk_alloc ?_ _)); exact BK306.out⟩, ⟨by (with_reducible repeat (first | refine blk_drewN ?_ _ | refine blk_drew ?_ | refine blk_alloc ?_ _)); exact BK307.out⟩, ⟨by repeat (first | (with_reducible first | exact HB.out | apply below_alloc | apply pw_below_drewN | apply below_drew1 | refine below_set ?_ GE304.out | refine below_set ?_ GE305.out | refine below_set ?_ GE306.out | refine below_set ?_ GE307.out) | exact HB.out)⟩⟩
                ·rw [if_neg c55] at H
                 have c55b0 : decide (0 < a3_2) = false := decide_eq_false c55
                 clear c55
                 (first | rw [c55b0] | (simp only [i64_w, i32_w]; rw [c55b0]) | skip)
                 have H' := Aside0.mk H
                 clear H
                 have hnb60 := NB305_304.out
                 have hnc60 := NB304_305.out
                 have hnb61 := NB305_306.out
                 have hnc61 := NB306_305.out
                 have hnb62 := NB305_307.out
                 have hnc62 := NB307_305.out
                 have hcz63_0 : wc.cell? ⟨gb305, 0, none⟩ = some (.int .i64 a3_0) := (blk_cell BK305.out 0).trans rfl
                 have hcz63_1 : wc.cell? ⟨gb305, 1, none⟩ = some (.int .i64 a3_1) := (blk_cell BK305.out 1).trans rfl
                 have hcz63_2 : wc.cell? ⟨gb305, 2, none⟩ = some (.int .i64 a3_2) := (blk_cell BK305.out 2).trans rfl
                 have hfz63_0 := blk_frozen BK305.out 0
                 have hfz63_1 := blk_frozen BK305.out 1
                 have hfz63_2 := blk_frozen BK305.out 2
                 go_wp2
                 go_meet
                 case rel => exact ⟨_, (false), (by first | rfl | (simp; done) | (simp [*]; done)), H', ⟨by have := HJ4.out; have := HJ19.out; have := HK3.out; have := HJ36.out; have := HJ47.out; first | omega | exact Nat.le_refl _⟩, ⟨by (with_reducible repeat (first | apply Kd.R_alloc | apply Kd.R_drewN | apply Kd.R_drew)); exact HO_308000.out⟩, ⟨by (with_reducible repeat (first | apply Kd.R_alloc | apply Kd.R_drewN | apply Kd.R_drew)); exact HO_308001.out⟩, ⟨by (with_reducible repeat (first | refine blk_drewN ?_ _ | refine blk_drew ?_ | refine blk_alloc ?_ _)); exact BK304.out⟩, ⟨by (with_reducible repeat (first | refine blk_drewN ?_ _ | refine blk_drew ?_ | refine blk_alloc ?_ _)); exact BK305.out⟩, ⟨by (with_reducible repeat (first | refine blk_drewN ?_ _ | refine blk_drew ?_ | refine blk_alloc ?_ _)); exact BK306.out⟩, ⟨by (with_reducible repeat (first | refine blk_drewN ?_ _ | refine blk_drew ?_ | refine blk_alloc ?_ _)); exact BK307.out⟩, ⟨by repeat (first | (with_reducible first | exact HB.out | apply below_alloc | apply pw_below_drewN | apply below_drew1 | refine below_set ?_ GE304.out | refine below_set ?_ GE305.out | refine below_set ?_ GE306.out | refine below_set ?_ GE307.out) | exact HB.out)⟩⟩
               case rest =>
                clear HC54
                try clear c1
                try clear c2
                try clear p2
                try clear c3
                try clear p3
                try clear q3
                try clear hx3
                try clear c4
                try clear c5
                try clear c6
                try clear p6
                try clear c9
                try clear c9b0
                try clear c9b1
                try clear c9b2
                try clear c10
                try clear c11
                try clear c13
                try clear c14
                try clear c16
                try clear c17
                try clear c18
                try clear c21
                try clear c21b0
                try clear c22
                try clear c23
                try clear c25
                try clear c26
                try clear c27
                try clear c30
                try clear p30
                try clear q30
                try clear hx30
                try clear c31
                try clear c32
                try clear c34
                try clear c34b0
                try clear c35
                try clear c35b0
                try clear c39
                try clear c39b0
                try clear c40
                try clear c41
                try clear c42
                try clear c44
                try clear c45
                try clear c46
                try clear c49
                try clear c50
                try clear c51
                try clear c52
                try clear c55
                try clear c55b0
                try clear c56
                try clear c57
                try clear c58
                try clear c60
                try clear c61
                try clear c62
                try clear hcz12_0
                try clear hcz12_1
                try clear hcz15_0
                try clear hcz15_1
                try clear hcz19_0
                try clear hcz19_1
                try clear hcz24_0
                try clear hcz24_1
                try clear hcz24_2
                try clear hcz28_0
                try clear hcz28_1
                try clear hcz33_0
                try clear hcz33_1
                try clear hcz43_0
                try clear hcz43_1
                try clear hcz43_2
                try clear hcz47_0
                try clear hcz47_1
                try clear hcz47_2
                try clear hcz53_0
                try clear hcz53_1
                try clear hcz53_2
                try clear hcz59_0
                try clear hcz59_1
                try clear hcz59_2
                try clear hcz63_0
                try clear hcz63_1
                try clear hcz63_2
                try clear hfz12_0
                try clear hfz12_1
                try clear hfz15_0
                try clear hfz15_1
                try clear hfz19_0
                try clear hfz19_1
                try clear hfz24_0
                try clear hfz24_1
                try clear hfz24_2
                try clear hfz28_0
                try clear hfz28_1
                try clear hfz33_0
                try clear hfz33_1
                try clear hfz43_0
                try clear hfz43_1
                try clear hfz43_2
                try clear hfz47_0
                try clear hfz47_1
                try clear hfz47_2
                try clear hfz53_0
                try clear hfz53_1
                try clear hfz53_2
                try clear hfz59_0
                try clear hfz59_1
                try clear hfz59_2
                try clear hfz63_0
                try clear hfz63_1
                try clear hfz63_2
                try clear hx308_0
                try clear hx308_1
                try clear p2
                try clear p3
                try clear p30
                try clear p308
                try clear q3
                try clear q30
                try clear q308
                obtain ⟨kq, x71_53, rfl, HA, HJ53, HO_308000, HO_308001, BK304, BK305, BK306, BK307, HB⟩ := hcut
                cases kq with
                | zero => exact absurd HA.out (by simp [carouselref10_Apply.j5])
                | succ kj53 =>
                 have H := HA.out
                 clear HA
                 simp only [carouselref10_Apply.j5] at H
                 have HC64 := Aside0.mk H
                 clear H
                 go_upto_if 71 with (fail)
                 go_cut [12] (fun v12 wc => ∃ (kq : Nat) (x12_63 : Int), v12 = .int .i64 x12_63 ∧ Aside0 (carouselref10_Apply.j6 kq l1 a2 x11_3 x12_63 l0_0 l0_1 a3_0 a3_1 a3_2 x308000_3 x308001_3 = some (r1, r2, r3)) ∧ Aside0 (kq ≤ kj53) ∧ Aside0 (Kd.R (Kd.int .i64) 27 wc w.heap.size (fun k_ => some k_ ≠ (u308001 : Value).ownBlock) u308000 x308000_3) ∧ Aside0 (Kd.R (Kd.int .i64) 27 wc w.heap.size (fun k_ => some k_ ≠ (u308000 : Value).ownBlock) u308001 x308001_3) ∧ Aside0 (wc.heap[gb304]? = some (.cells #[(.slice A0_0 l0_0.length c0_0), (.slice A0_1 l0_1.length c0_1)] 38 (0, 0))) ∧ Aside0 (wc.heap[gb305]? = some (.cells #[.int .i64 a3_0, .int .i64 a3_1, .int .i64 a3_2] 41 (0, 0))) ∧ Aside0 (wc.heap[gb306]? = some (.cells #[(.slice none 0 0), (.slice none 0 0)] 38 (0, 0))) ∧ Aside0 (wc.heap[gb307]? = some (.cells #[u308000, u308001] 38 (0, 0))) ∧ Aside0 (Below w.heap.size w wc))
                 case first =>
                  have H := HC64.out
                  clear HC64
                  by_cases c65 : x71_53 = true
                  ·subst c65
                   have H1 := H
                   rw [if_pos rfl] at H1
                   clear H
                   have H := H1
                   clear H1
                   have H' := Aside0.mk H
                   clear H
                   have hnb66 := NB305_304.out
                   have hnc66 := NB304_305.out
                   have hnb67 := NB305_306.out
                   have hnc67 := NB306_305.out
                   have hnb68 := NB305_307.out
                   have hnc68 := NB307_305.out
                   have hcz69_0 : wc.cell? ⟨gb305, 0, none⟩ = some (.int .i64 a3_0) := (blk_cell BK305.out 0).trans rfl
                   have hcz69_1 : wc.cell? ⟨gb305, 1, none⟩ = some (.int .i64 a3_1) := (blk_cell BK305.out 1).trans rfl
                   have hcz69_2 : wc.cell? ⟨gb305, 2, none⟩ = some (.int .i64 a3_2) := (blk_cell BK305.out 2).trans rfl
                   have hfz69_0 := blk_frozen BK305.out 0
                   have hfz69_1 := blk_frozen BK305.out 1
                   have hfz69_2 := blk_frozen BK305.out 2
                   go_wp2
                   go_meet
                   case rel => exact ⟨_, (wrap64 (-a3_2)), (by first | rfl | (simp; done) | (simp [*]; done)), H', ⟨by have := HJ4.out; have := HJ19.out; have := HK3.out; have := HJ36.out; have := HJ47.out; have := HJ53.out; first | omega | exact Nat.le_refl _⟩, ⟨by (with_reducible repeat (first | apply Kd.R_alloc | apply Kd.R_drewN | apply Kd.R_drew)); exact HO_308000.out⟩, ⟨by (with_reducible repeat (first | apply Kd.R_alloc | apply Kd.R_drewN | apply Kd.R_drew)); exact HO_308001.out⟩, ⟨by (with_reducible repeat (first | refine blk_drewN ?_ _ | refine blk_drew ?_ | refine blk_alloc ?_ _)); exact BK304.out⟩, ⟨by (with_reducible repeat (first | refine blk_drewN ?_ _ | refine blk_drew ?_ | refine blk_alloc ?_ _)); exact BK305.out⟩, ⟨by (with_reducible repeat (first | refine blk_drewN ?_ _ | refine blk_drew ?_ | refine blk_alloc ?_ _)); exact BK306.out⟩, ⟨by (with_reducible repeat (first | refine blk_drewN ?_ _ | refine blk_drew ?_ | refine blk_alloc ?_ _)); exact BK307.out⟩, ⟨by repeat (first | (with_reducible first | exact HB.out | apply below_alloc | apply pw_below_drewN | apply below_drew1 | refine below_set ?_ GE304.out | refine below_set ?_ GE305.out | refine below_set ?_ GE306.out | refine below_set ?_ GE307.out) | exact HB.out)⟩⟩
                  ·replace c65 := Bool.eq_false_iff.mpr c65
                   subst c65
                   have H1 := H
                   rw [if_neg (show ¬ (false = true) by decide)] at H1
                   clear H
                   have H := H1
                   clear H1
                   have H' := Aside0.mk H
                   clear H
                   go_wp2
                   go_meet
                   case rel => exact ⟨_, (x12_47), (by first | rfl | (simp; done) | (simp [*]; done)), H', ⟨by have := HJ4.out; have := HJ19.out; have := HK3.out; have := HJ36.out; have := HJ47.out; have := HJ53.out; first | omega | exact Nat.le_refl _⟩, ⟨by (with_reducible repeat (first | apply Kd.R_alloc | apply Kd.R_drewN | apply Kd.R_drew)); exact HO_308000.out⟩, ⟨by (with_reducible repeat (first | apply Kd.R_alloc | apply Kd.R_drewN | apply Kd.R_drew)); exact HO_308001.out⟩, ⟨by (with_reducible repeat (first | refine blk_drewN ?_ _ | refine blk_drew ?_ | refine blk_alloc ?_ _)); exact BK304.out⟩, ⟨by (with_reducible repeat (first | refine blk_drewN ?_ _ | refine blk_drew ?_ | refine blk_alloc ?_ _)); exact BK305.out⟩, ⟨by (with_reducible repeat (first | refine blk_drewN ?_ _ | refine blk_drew ?_ | refine blk_alloc ?_ _)); exact BK306.out⟩, ⟨by (with_reducible repeat (first | refine blk_drewN ?_ _ | refine blk_drew ?_ | refine blk_alloc ?_ _)); exact BK307.out⟩, ⟨by repeat (first | (with_reducible first | exact HB.out | apply below_alloc | apply pw_below_drewN | apply below_drew1 | refine below_set ?_ GE304.out | refine below_set ?_ GE305.out | refine below_set ?_ GE306.out | refine below_set ?_ GE307.out) | exact HB.out)⟩⟩
                 case rest =>
                  clear HC64
                  try clear c1
                  try clear c2
                  try clear p2
                  try clear c3
                  try clear p3
                  try clear q3
                  try clear hx3
                  try clear c4
                  try clear c5
                  try clear c6
                  try clear p6
                  try clear c9
                  try clear c9b0
                  try clear c9b1
                  try clear c9b2
                  try clear c10
                  try clear c11
                  try clear c13
                  try clear c14
                  try clear c16
                  try clear c17
                  try clear c18
                  try clear c21
                  try clear c21b0
                  try clear c22
                  try clear c23
                  try clear c25
                  try clear c26
                  try clear c27
                  try clear c30
                  try clear p30
                  try clear q30
                  try clear hx30
                  try clear c31
                  try clear c32
                  try clear c34
                  try clear c34b0
                  try clear c35
                  try clear c35b0
                  try clear c39
                  try clear c39b0
                  try clear c40
                  try clear c41
                  try clear c42
                  try clear c44
                  try clear c45
                  try clear c46
                  try clear c49
                  try clear c50
                  try clear c51
                  try clear c52
                  try clear c55
                  try clear c55b0
                  try clear c56
                  try clear c57
                  try clear c58
                  try clear c60
                  try clear c61
                  try clear c62
                  try clear p64
                  try clear c65
                  try clear c66
                  try clear c67
                  try clear c68
                  try clear hcz12_0
                  try clear hcz12_1
                  try clear hcz15_0
                  try clear hcz15_1
                  try clear hcz19_0
                  try clear hcz19_1
                  try clear hcz24_0
                  try clear hcz24_1
                  try clear hcz24_2
                  try clear hcz28_0
                  try clear hcz28_1
                  try clear hcz33_0
                  try clear hcz33_1
                  try clear hcz43_0
                  try clear hcz43_1
                  try clear hcz43_2
                  try clear hcz47_0
                  try clear hcz47_1
                  try clear hcz47_2
                  try clear hcz53_0
                  try clear hcz53_1
                  try clear hcz53_2
                  try clear hcz59_0
                  try clear hcz59_1
                  try clear hcz59_2
                  try clear hcz63_0
                  try clear hcz63_1
                  try clear hcz63_2
                  try clear hcz69_0
                  try clear hcz69_1
                  try clear hcz69_2
                  try clear hfz12_0
                  try clear hfz12_1
                  try clear hfz15_0
                  try clear hfz15_1
                  try clear hfz19_0
                  try clear hfz19_1
                  try clear hfz24_0
                  try clear hfz24_1
                  try clear hfz24_2
                  try clear hfz28_0
                  try clear hfz28_1
                  try clear hfz33_0
                  try clear hfz33_1
                  try clear hfz43_0
                  try clear hfz43_1
                  try clear hfz43_2
                  try clear hfz47_0
                  try clear hfz47_1
                  try clear hfz47_2
                  try clear hfz53_0
                  try clear hfz53_1
                  try clear hfz53_2
                  try clear hfz59_0
                  try clear hfz59_1
                  try clear hfz59_2
                  try clear hfz63_0
                  try clear hfz63_1
                  try clear hfz63_2
                  try clear hfz69_0
                  try clear hfz69_1
                  try clear hfz69_2
                  try clear hx308_0
                  try clear hx308_1
                  try clear p2
                  try clear p3
                  try clear p30
                  try clear p308
                  try clear p6
                  try clear q3
                  try clear q30
                  try clear q308
                  obtain ⟨kq, x12_63, rfl, HA, HJ63, HO_308000, HO_308001, BK304, BK305, BK306, BK307, HB⟩ := hcut
                  cases kq with
                  | zero => exact absurd HA.out (by simp [carouselref10_Apply.j6])
                  | succ kj63 =>
                   have H := HA.out
                   clear HA
                   simp only [carouselref10_Apply.j6] at H
                   by_cases c70 : 0 ≤ x11_3
                   ·rw [if_pos c70] at H
                    have c70b0 : decide (0 ≤ x11_3) = true := decide_eq_true c70
                    clear c70
                    by_cases c71 : x11_3 < (l0_1.length : Int)
                    ·rw [if_pos c71] at H
                     have c71b0 : decide (x11_3 < (l0_1.length : Int)) = true := decide_eq_true c71
                     clear c71
                     replace H := Option.bind_eq_some_iff.mp H
                     obtain ⟨t311, A720, H⟩ := H
                     (try dsimp only at H)
                     have A72 := Aside0.mk A720
                     clear A720
                     replace H := Option.bind_eq_some_iff.mp H
                     obtain ⟨t312, A730, H⟩ := H
                     (try dsimp only at H)
                     have A73 := Aside0.mk A730
                     clear A730
                     by_cases c74 : x308001_3.length < 17592186044416
                     ·rw [if_pos c74] at H
                      have LMc74 := Aside0.mk c74
                      clear c74
                      obtain ⟨y313, hy313⟩ : ∃ y_ : List Int, y_ = (x308001_3 ++ [t312]) := ⟨_, rfl⟩
                      replace H : (if x11_3 < (l0_0.length : Int) then ((carouselref1_Mul.f kj63 a3_0 t312).bind fun t317 => ((carouselref1_Sub.f kj63 (rd l0_0 x11_3) t317).bind fun t318 => (if x308000_3.length < 17592186044416 then (carouselref10_Apply.l0 kj63 l1 a2 (wrap64 (x11_3 + 1)) l0_0 l0_1 a3_0 a3_1 a3_2 (x308000_3 ++ [t318]) y313) else (none)))) else (none)) = some (r1, r2, r3) := by first | (rw [hy313]; with_reducible exact H) | (have H2_ := (Option.bind_some _ _).symm.trans H; rw [hy313]; with_reducible exact H2_) | (have H2_ := (Option.bind_some _ _).symm.trans H; with_reducible exact H2_) | with_reducible exact H | (rw [hy313]; exact H) | exact H
                      have Ny313 := Aside0.mk hy313
                      clear hy313
                      by_cases c75 : x11_3 < (l0_0.length : Int)
                      ·rw [if_pos c75] at H
                       have c75b0 : decide (x11_3 < (l0_0.length : Int)) = true := decide_eq_true c75
                       clear c75
                       replace H := Option.bind_eq_some_iff.mp H
                       obtain ⟨t317, A760, H⟩ := H
                       (try dsimp only at H)
                       have A76 := Aside0.mk A760
                       clear A760
                       replace H := Option.bind_eq_some_iff.mp H
                       obtain ⟨t318, A770, H⟩ := H
                       (try dsimp only at H)
                       have A77 := Aside0.mk A770
                       clear A770
                       by_cases c78 : x308000_3.length < 17592186044416
                       ·rw [if_pos c78] at H
                        have LMc78 := Aside0.mk c78
                        clear c78
                        obtain ⟨y319, hy319⟩ : ∃ y_ : List Int, y_ = (x308000_3 ++ [t318]) := ⟨_, rfl⟩
                        replace H : (carouselref10_Apply.l0 kj63 l1 a2 (wrap64 (x11_3 + 1)) l0_0 l0_1 a3_0 a3_1 a3_2 y319 y313) = some (r1, r2, r3) := by first | (rw [hy319]; with_reducible exact H) | (have H2_ := (Option.bind_some _ _).symm.trans H; rw [hy319]; with_reducible exact H2_) | (have H2_ := (Option.bind_some _ _).symm.trans H; with_reducible exact H2_) | with_reducible exact H | (rw [hy319]; exact H) | exact H
                        have Ny319 := Aside0.mk hy319
                        clear hy319
                        have H' := Aside0.mk H
                        clear H
                        try go_wp2
                        have n0_ := Aside0.mk (Kd.R_drew HO_308000.out)
                        have n1_ := Aside0.mk (Kd.R_drew HO_308001.out)
                        have n2_ := Aside0.mk (blk_drew BK304.out)
                        have n3_ := Aside0.mk (blk_drew BK305.out)
                        have n4_ := Aside0.mk (blk_drew BK306.out)
                        have n5_ := Aside0.mk (blk_drew BK307.out)
                        have n6_ := Aside0.mk (below_drew1 HB.out)
                        clear HO_308000
                        clear HO_308001
                        clear BK304
                        clear BK305
                        clear BK306
                        clear BK307
                        clear HB
                        have HO_308000 := n0_
                        have HO_308001 := n1_
                        have BK304 := n2_
                        have BK305 := n3_
                        have BK306 := n4_
                        have BK307 := n5_
                        have HB := n6_
                        clear n0_ n1_ n2_ n3_ n4_ n5_ n6_
                        have p310 : 0 ≤ (x11_3 : Int) := of_decide_eq_true (by first | (with_reducible assumption) | assumption)
                        have q310 : x11_3 < (l0_1.length : Int) := of_decide_eq_true (by first | (with_reducible assumption) | assumption)
                        obtain ⟨ad310, e310, hx310_0⟩ := Kd.at_int HR0_1.out x11_3 p310 q310
                        have hw310_0 := hx310_0
                        cases e310
                        replace hx310_0 := (HB.out.cell (World.block_lt_of_cell? w _ hx310_0)).trans hx310_0
                        replace p310 := eq_true p310
                        replace q310 := eq_true q310
                        refine start_ (n := 11) (S := fun w' => w'.cell? ⟨gb305, 0, none⟩ = some (.int .i64 a3_0) ∧ w'.cell? ⟨gb305, 1, none⟩ = some (.int .i64 a3_1) ∧ w'.cell? ⟨gb305, 2, none⟩ = some (.int .i64 a3_2) ∧ w'.cell? ⟨gb304, 0, none⟩ = some (.slice A0_0 l0_0.length c0_0) ∧ w'.cell? ⟨gb304, 1, none⟩ = some (.slice (some ad310) l0_1.length c0_1) ∧ w'.cell? (ad310.add (x11_3).toNat) = some (.int .i64 (rd l0_1 x11_3))) (ds := []) #[false, false, false, false, false, false, false, false, false, false, false] (by kernel_rfl) rfl rfl ⟨(blk_cell BK305.out 0).trans rfl, (blk_cell BK305.out 1).trans rfl, (blk_cell BK305.out 2).trans rfl, (blk_cell BK304.out 0).trans rfl, (blk_cell BK304.out 1).trans rfl, ((HB.out.cell (World.block_lt_of_cell? w _ hw310_0)).trans hw310_0)⟩ (fun hHeld => ?_); refine with_tabW carouselref10_Apply.tab14 carouselref10_Apply.bits14 (fun HT_ HW_ => ?_)
                        generalize wc.drew = w79 at HO_308000 HO_308001 BK304 BK305 BK306 BK307 HB hx310_0 hHeld ⊢
                        refine pure_ (i := 0) (N := some 75) (v := ?_) (a' := ?_) #[true, false, false, false, false, false, false, false, false, false, false] rfl rfl (any_of HT_.out (by kernel_rfl)) (fun _ _ _ h => h) (Or.inl ⟨by rfl, ?_⟩) ?_ ?_
                        rotate_left
                        ·intro w'
                         go_simp
                         with_reducible rfl
                        rotate_left
                        ·simp only [Act.put, List.setIfInBounds_toArray, List.set_cons_zero, List.set_cons_succ, i64_w, i32_w]
                         rfl
                        refine pure_ (i := 2) (N := some 77) (v := ?_) (a' := ?_) #[true, false, true, false, false, false, false, false, false, false, false] rfl rfl (any_of HT_.out (by kernel_rfl)) (fun _ _ _ h => h) (Or.inl ⟨by rfl, ?_⟩) ?_ ?_
                        rotate_left
                        ·intro w'
                         go_simp
                         with_reducible rfl
                        rotate_left
                        ·simp only [Act.put, List.setIfInBounds_toArray, List.set_cons_zero, List.set_cons_succ, i64_w, i32_w]
                         rfl
                        refine pure_ (i := 4) (N := some 79) (v := ?_) (a' := ?_) #[true, false, true, false, true, false, false, false, false, false, false] rfl rfl (any_of HT_.out (by kernel_rfl)) (fun _ _ _ h => h) (Or.inl ⟨by rfl, ?_⟩) ?_ ?_
                        rotate_left
                        ·intro w'
                         go_simp
                         with_reducible rfl
                        rotate_left
                        ·simp only [Act.put, List.setIfInBounds_toArray, List.set_cons_zero, List.set_cons_succ, i64_w, i32_w]
                         rfl
                        refine pure_ (i := 8) (N := some 83) (v := ?_) (a' := ?_) #[true, false, true, false, true, false, false, false, true, false, false] rfl rfl (any_of HT_.out (by kernel_rfl)) (fun _ _ _ h => h) (Or.inl ⟨by rfl, ?_⟩) ?_ ?_
                        rotate_left
                        ·intro w'
                         go_simp
                         with_reducible rfl
                        rotate_left
                        ·simp only [Act.put, List.setIfInBounds_toArray, List.set_cons_zero, List.set_cons_succ, i64_w, i32_w]
                         rfl
                        refine take_ (i := 1) (N := some 76) (v := ?_) (a' := ?_) #[true, true, true, false, true, false, false, false, true, false, false] rfl rfl (take_ofW HT_.out HW_.out (by kernel_rfl)) (fun _ _ _ h => h) (Or.inl ⟨by rfl, ?_⟩) hHeld ?_ ?_
                        rotate_left
                        ·rintro w' ⟨s0, s1, s2, s3, s4, s5⟩
                         go_simp
                         with_reducible rfl
                        rotate_left
                        ·simp only [Act.put, List.setIfInBounds_toArray, List.set_cons_zero, List.set_cons_succ, i64_w, i32_w]
                         rfl
                        refine take_ (i := 3) (N := some 78) (v := ?_) (a' := ?_) #[true, true, true, true, true, false, false, false, true, false, false] rfl rfl (take_ofW HT_.out HW_.out (by kernel_rfl)) (fun _ _ _ h => h) (Or.inl ⟨by rfl, ?_⟩) hHeld ?_ ?_
                        rotate_left
                        ·rintro w' ⟨s0, s1, s2, s3, s4, s5⟩
                         go_simp
                         with_reducible rfl
                        rotate_left
                        ·simp only [Act.put, List.setIfInBounds_toArray, List.set_cons_zero, List.set_cons_succ, i64_w, i32_w]
                         rfl
                        refine pure_ (i := 5) (N := some 80) (v := ?_) (a' := ?_) #[true, true, true, true, true, true, false, false, true, false, false] rfl rfl (any_of HT_.out (by kernel_rfl)) (fun _ _ _ h => h) (Or.inl ⟨by rfl, ?_⟩) ?_ ?_
                        rotate_left
                        ·intro w'
                         go_simp
                         with_reducible rfl
                        rotate_left
                        ·simp only [Act.put, List.setIfInBounds_toArray, List.set_cons_zero, List.set_cons_succ, i64_w, i32_w]
                         rfl
                        refine take_ (i := 6) (N := some 81) (v := ?_) (a' := ?_) #[true, true, true, true, true, true, true, false, true, false, false] rfl rfl (take_ofW HT_.out HW_.out (by kernel_rfl)) (fun _ _ _ h => h) (Or.inl ⟨by rfl, ?_⟩) hHeld ?_ ?_
                        rotate_left
                        ·rintro w' ⟨s0, s1, s2, s3, s4, s5⟩
                         go_simp
                         with_reducible rfl
                        rotate_left
                        ·simp only [Act.put, List.setIfInBounds_toArray, List.set_cons_zero, List.set_cons_succ, i64_w, i32_w]
                         rfl
                        refine one_ (i := 7) (N := some 82) #[true, true, true, true, true, true, true, true, true, false, false] rfl rfl (one_of HT_.out (by kernel_rfl)) (by decide) (fun K hK => ?_)
                        refine goes_ Try.func27 (by kernel_rfl) rfl #[.int .i64 a3_1, .int .i64 (rd l0_1 x11_3)] (by rfl) rfl rfl (by (try simp only [List.map_toArray, List.map_cons, List.map_nil]); first | done | rfl | (simp only [List.length_drop, List.length_take]; rfl)) ?_
                        with_reducible refine (carouselref1_Mul.calls kj63 a3_1 (rd l0_1 x11_3) t311 _ A72.out).mono ?_
                        rintro e w80 ⟨rfl, hb⟩
                        refine ⟨_, rfl, ?_⟩
                        have n0_ := Aside0.mk (Kd.R_below (by (with_reducible repeat (first | apply Kd.R_alloc | apply Kd.R_drewN | apply Kd.R_drew)); exact HO_308000.out) hb)
                        have n1_ := Aside0.mk (Kd.R_below (by (with_reducible repeat (first | apply Kd.R_alloc | apply Kd.R_drewN | apply Kd.R_drew)); exact HO_308001.out) hb)
                        have n2_ := Aside0.mk (blk_below (g := gb304) (o := .cells #[.slice A0_0 l0_0.length c0_0, .slice (some ad310) l0_1.length c0_1] 38 (0, 0)) (by (with_reducible repeat (first | refine blk_drewN ?_ _ | refine blk_drew ?_ | refine blk_alloc ?_ _)); exact BK304.out) hb)
                        have n3_ := Aside0.mk (blk_below (g := gb305) (o := .cells #[.int .i64 a3_0, .int .i64 a3_1, .int .i64 a3_2] 41 (0, 0)) (by (with_reducible repeat (first | refine blk_drewN ?_ _ | refine blk_drew ?_ | refine blk_alloc ?_ _)); exact BK305.out) hb)
                        have n4_ := Aside0.mk (blk_below (g := gb306) (o := .cells #[.slice none 0 0, .slice none 0 0] 38 (0, 0)) (by (with_reducible repeat (first | refine blk_drewN ?_ _ | refine blk_drew ?_ | refine blk_alloc ?_ _)); exact BK306.out) hb)
                        have n5_ := Aside0.mk (blk_below (g := gb307) (o := .cells #[u308000, u308001] 38 (0, 0)) (by (with_reducible repeat (first | refine blk_drewN ?_ _ | refine blk_drew ?_ | refine blk_alloc ?_ _)); exact BK307.out) hb)
                        have n6_ := Aside0.mk (below_step (by repeat (first | (with_reducible first | exact HB.out | apply below_alloc | apply pw_below_drewN | apply below_drew1 | refine below_set ?_ GE304.out | refine below_set ?_ GE305.out | refine below_set ?_ GE306.out | refine below_set ?_ GE307.out) | exact HB.out)) hb)
                        clear HO_308000
                        clear HO_308001
                        clear BK304
                        clear BK305
                        clear BK306
                        clear BK307
                        clear HB
                        have HO_308000 := n0_
                        have HO_308001 := n1_
                        have BK304 := n2_
                        have BK305 := n3_
                        have BK306 := n4_
                        have BK307 := n5_
                        have HB := n6_
                        clear n0_ n1_ n2_ n3_ n4_ n5_ n6_
                        (try clear hb)
                        (try clear hb2)
                        (try clear hk)
                        (try clear hi)
                        refine hK.out _ _ ⟨(blk_cell BK305.out 0).trans rfl, (blk_cell BK305.out 1).trans rfl, (blk_cell BK305.out 2).trans rfl, (blk_cell BK304.out 0).trans rfl, (blk_cell BK304.out 1).trans rfl, ((HB.out.cell (World.block_lt_of_cell? w _ hw310_0)).trans hw310_0)⟩ (fun hHeld => ?_)
                        clear hK K
                        refine norm_ (a' := ?_) ?_ ?_
                        rotate_left
                        ·show Act.put _ (some 82) _ = _
                         simp only [Act.put, List.setIfInBounds_toArray, List.set_cons_zero, List.set_cons_succ, i64_w, i32_w]
                         rfl
                        refine one_ (i := 9) (N := some 84) #[true, true, true, true, true, true, true, true, true, true, false] rfl rfl (one_of HT_.out (by kernel_rfl)) (by decide) (fun K hK => ?_)
                        refine goes_ Try.func26 (by kernel_rfl) rfl #[.int .i64 t311, .int .i64 x12_63] (by rfl) rfl rfl (by (try simp only [List.map_toArray, List.map_cons, List.map_nil]); first | done | rfl | (simp only [List.length_drop, List.length_take]; rfl)) ?_
                        with_reducible refine (carouselref1_Add.calls kj63 t311 x12_63 t312 _ A73.out).mono ?_
                        rintro e w81 ⟨rfl, hb⟩
                        refine ⟨_, rfl, ?_⟩
                        have n0_ := Aside0.mk (Kd.R_below (by (with_reducible repeat (first | apply Kd.R_alloc | apply Kd.R_drewN | apply Kd.R_drew)); exact HO_308000.out) hb)
                        have n1_ := Aside0.mk (Kd.R_below (by (with_reducible repeat (first | apply Kd.R_alloc | apply Kd.R_drewN | apply Kd.R_drew)); exact HO_308001.out) hb)
                        have n2_ := Aside0.mk (blk_below (g := gb304) (o := .cells #[.slice A0_0 l0_0.length c0_0, .slice (some ad310) l0_1.length c0_1] 38 (0, 0)) (by (with_reducible repeat (first | refine blk_drewN ?_ _ | refine blk_drew ?_ | refine blk_alloc ?_ _)); exact BK304.out) hb)
                        have n3_ := Aside0.mk (blk_below (g := gb305) (o := .cells #[.int .i64 a3_0, .int .i64 a3_1, .int .i64 a3_2] 41 (0, 0)) (by (with_reducible repeat (first | refine blk_drewN ?_ _ | refine blk_drew ?_ | refine blk_alloc ?_ _)); exact BK305.out) hb)
                        have n4_ := Aside0.mk (blk_below (g := gb306) (o := .cells #[.slice none 0 0, .slice none 0 0] 38 (0, 0)) (by (with_reducible repeat (first | refine blk_drewN ?_ _ | refine blk_drew ?_ | refine blk_alloc ?_ _)); exact BK306.out) hb)
                        have n5_ := Aside0.mk (blk_below (g := gb307) (o := .cells #[u308000, u308001] 38 (0, 0)) (by (with_reducible repeat (first | refine blk_drewN ?_ _ | refine blk_drew ?_ | refine blk_alloc ?_ _)); exact BK307.out) hb)
                        have n6_ := Aside0.mk (below_step (by repeat (first | (with_reducible first | exact HB.out | apply below_alloc | apply pw_below_drewN | apply below_drew1 | refine below_set ?_ GE304.out | refine below_set ?_ GE305.out | refine below_set ?_ GE306.out | refine below_set ?_ GE307.out) | exact HB.out)) hb)
                        clear HO_308000
                        clear HO_308001
                        clear BK304
                        clear BK305
                        clear BK306
                        clear BK307
                        clear HB
                        have HO_308000 := n0_
                        have HO_308001 := n1_
                        have BK304 := n2_
                        have BK305 := n3_
                        have BK306 := n4_
                        have BK307 := n5_
                        have HB := n6_
                        clear n0_ n1_ n2_ n3_ n4_ n5_ n6_
                        (try clear hb)
                        (try clear hb2)
                        (try clear hk)
                        (try clear hi)
                        refine hK.out _ _ ⟨(blk_cell BK305.out 0).trans rfl, (blk_cell BK305.out 1).trans rfl, (blk_cell BK305.out 2).trans rfl, (blk_cell BK304.out 0).trans rfl, (blk_cell BK304.out 1).trans rfl, ((HB.out.cell (World.block_lt_of_cell? w _ hw310_0)).trans hw310_0)⟩ (fun hHeld => ?_)
                        clear hK K
                        refine norm_ (a' := ?_) ?_ ?_
                        rotate_left
                        ·show Act.put _ (some 84) _ = _
                         simp only [Act.put, List.setIfInBounds_toArray, List.set_cons_zero, List.set_cons_succ, i64_w, i32_w]
                         rfl
                        refine pure_ (i := 10) (N := some 13) (v := ?_) (a' := ?_) #[true, true, true, true, true, true, true, true, true, true, true] rfl rfl (any_of HT_.out (by kernel_rfl)) (fun _ _ _ h => h) (Or.inl ⟨by rfl, ?_⟩) ?_ ?_
                        rotate_left
                        ·intro w'
                         go_simp
                         with_reducible rfl
                        rotate_left
                        ·simp only [Act.put, List.setIfInBounds_toArray, List.set_cons_zero, List.set_cons_succ, i64_w, i32_w]
                         rfl
                        refine done_ (done_of HT_.out (by kernel_rfl)) ?_
                        have hnb82 := NB307_304.out
                        have hnc82 := NB304_307.out
                        have hnb83 := NB307_305.out
                        have hnc83 := NB305_307.out
                        have hnb84 := NB307_306.out
                        have hnc84 := NB306_307.out
                        have hcz85_0 : w81.cell? ⟨gb307, 0, none⟩ = some (u308000) := (blk_cell BK307.out 0).trans rfl
                        have hcz85_1 : w81.cell? ⟨gb307, 1, none⟩ = some (u308001) := (blk_cell BK307.out 1).trans rfl
                        have hfz85_0 := blk_frozen BK307.out 0
                        have hfz85_1 := blk_frozen BK307.out 1
                        try go_wp2_with (first | ((with_reducible refine gate_builtin (b := .append) (xs := #[.tmp 86, .tmp 88]) rfl ?_); (try (refine gate_guard (by rfl) ?_; dsimp only)); at_builtin; refine Kd.R_append (Kd.int .i64) (w0 := w) w.heap.size rfl (.tmp 86) (.tmp 88) 23 27 (.int .i64 0) 8 rfl Try.underlying23 info27 rfl (by decide) (by omega) u308001 x308001_3 t312 [.int .i64 t312] (fun k_ => some k_ ≠ (u308000 : Value).ownBlock) (fun _ => False) rfl rfl ?aP (fun _ hk => hk.elim) ?aF ?aO ?aB ?aS ?aL ?_; (case aP => exact rfl); (case aB => exact (by repeat (first | (with_reducible first | exact HB.out | apply below_alloc | apply pw_below_drewN | apply below_drew1 | refine below_set ?_ GE304.out | refine below_set ?_ GE305.out | refine below_set ?_ GE306.out | refine below_set ?_ GE307.out) | exact HB.out))); (case aF => exact (fun k_ hk => Kd.fresh' (Kd.R_lt (by (with_reducible repeat (first | apply Kd.R_alloc | apply Kd.R_drewN | apply Kd.R_drew)); exact HO_308000.out)) k_ hk)); (case aO => exact (by (with_reducible repeat (first | apply Kd.R_alloc | apply Kd.R_drewN | apply Kd.R_drew)); exact HO_308001.out)); (case aS => exact (below_size (by repeat (first | (with_reducible first | exact HB.out | apply below_alloc | apply pw_below_drewN | apply below_drew1 | refine below_set ?_ GE304.out | refine below_set ?_ GE305.out | refine below_set ?_ GE306.out | refine below_set ?_ GE307.out) | exact HB.out)))); (case aL => have := LMc74.out; omega); intro v314 w86 ho hb hg hat; rw [← Ny313.out] at ho; have n0_ := Aside0.mk (Kd.R_after (ok := (fun _ => True)) (by (with_reducible repeat (first | apply Kd.R_alloc | apply Kd.R_drewN | apply Kd.R_drew)); exact Kd.R_mono HO_308000.out (fun _ hk => ⟨trivial, hk⟩)) hg hat); have n1_ := Aside0.mk (blk_grown (g := gb304) (o := .cells #[.slice A0_0 l0_0.length c0_0, .slice (some ad310) l0_1.length c0_1] 38 (0, 0)) (by (with_reducible repeat (first | refine blk_drewN ?_ _ | refine blk_drew ?_ | refine blk_alloc ?_ _)); exact BK304.out) hg (Kd.R_ne HO_308001.out BK304.out (by decide))); have n2_ := Aside0.mk (blk_grown (g := gb305) (o := .cells #[.int .i64 a3_0, .int .i64 a3_1, .int .i64 a3_2] 41 (0, 0)) (by (with_reducible repeat (first | refine blk_drewN ?_ _ | refine blk_drew ?_ | refine blk_alloc ?_ _)); exact BK305.out) hg (Kd.R_ne HO_308001.out BK305.out (by decide))); have n3_ := Aside0.mk (blk_grown (g := gb306) (o := .cells #[.slice none 0 0, .slice none 0 0] 38 (0, 0)) (by (with_reducible repeat (first | refine blk_drewN ?_ _ | refine blk_drew ?_ | refine blk_alloc ?_ _)); exact BK306.out) hg (Kd.R_ne HO_308001.out BK306.out (by decide))); have n4_ := Aside0.mk (blk_grown (g := gb307) (o := .cells #[u308000, u308001] 38 (0, 0)) (by (with_reducible repeat (first | refine blk_drewN ?_ _ | refine blk_drew ?_ | refine blk_alloc ?_ _)); exact BK307.out) hg (Kd.R_ne HO_308001.out BK307.out (by decide))); have n5_ := Aside0.mk (hb); have n6_ := Aside0.mk (ho); clear HO_308000; clear BK304; clear BK305; clear BK306; clear BK307; clear HB; clear HO_308001; have HO_308000 := n0_; have BK304 := n1_; have BK305 := n2_; have BK306 := n3_; have BK307 := n4_; have HB := n5_; have HO315 := n6_; clear n0_ n1_ n2_ n3_ n4_ n5_ n6_; clear ho hb hg hat; obtain ⟨Ao87, co87, eo87⟩ := Kd.R_slice HO315.out; subst eo87; have hcz88_0 : w86.cell? ⟨gb307, 0, none⟩ = some (u308000) := (blk_cell BK307.out 0).trans rfl; have hcz88_1 : w86.cell? ⟨gb307, 1, none⟩ = some (u308001) := (blk_cell BK307.out 1).trans rfl; have hfz88_0 := blk_frozen BK307.out 0; have hfz88_1 := blk_frozen BK307.out 1))
                        have n0_ : Aside0 (Kd.R (Kd.int .i64) 27 (w86.setCell ⟨gb307, 1, none⟩ (.slice Ao87 y313.length co87)) w.heap.size (fun k_ => some k_ ≠ (.slice Ao87 y313.length co87 : Value).ownBlock) u308000 x308000_3) := ⟨by (with_reducible repeat (first | apply Kd.R_alloc | apply Kd.R_drewN | apply Kd.R_drew)); exact Kd.R_mono (Kd.R_far (p := ⟨gb307, 1, none⟩) (Kd.R_types HO_308000.out BK307.out (by decide)) (fun _ hk => hk.2) (.slice Ao87 y313.length co87)) (fun _ hk => hk.1.2)⟩
                        have n1_ : Aside0 (Kd.R (Kd.int .i64) 27 (w86.setCell ⟨gb307, 1, none⟩ (.slice Ao87 y313.length co87)) w.heap.size (fun k_ => some k_ ≠ (u308000 : Value).ownBlock) (.slice Ao87 y313.length co87) y313) := ⟨by (with_reducible repeat (first | apply Kd.R_alloc | apply Kd.R_drewN | apply Kd.R_drew)); exact Kd.R_mono (Kd.R_far (p := ⟨gb307, 1, none⟩) (Kd.R_types HO315.out BK307.out (by decide)) (fun _ hk => hk.2) (.slice Ao87 y313.length co87)) (fun _ hk => hk.1)⟩
                        have n2_ : Aside0 ((w86.setCell ⟨gb307, 1, none⟩ (.slice Ao87 y313.length co87)).heap[gb304]? = some (.cells #[.slice A0_0 l0_0.length c0_0, .slice (some ad310) l0_1.length c0_1] 38 (0, 0))) := ⟨by (with_reducible repeat (first | refine blk_drewN ?_ _ | refine blk_drew ?_ | refine blk_alloc ?_ _)); refine blk_far ?_ NB304_307.out _; (with_reducible repeat (first | refine blk_drewN ?_ _ | refine blk_drew ?_ | refine blk_alloc ?_ _)); exact BK304.out⟩
                        have n3_ : Aside0 ((w86.setCell ⟨gb307, 1, none⟩ (.slice Ao87 y313.length co87)).heap[gb305]? = some (.cells #[.int .i64 a3_0, .int .i64 a3_1, .int .i64 a3_2] 41 (0, 0))) := ⟨by (with_reducible repeat (first | refine blk_drewN ?_ _ | refine blk_drew ?_ | refine blk_alloc ?_ _)); refine blk_far ?_ NB305_307.out _; (with_reducible repeat (first | refine blk_drewN ?_ _ | refine blk_drew ?_ | refine blk_alloc ?_ _)); exact BK305.out⟩
                        have n4_ : Aside0 ((w86.setCell ⟨gb307, 1, none⟩ (.slice Ao87 y313.length co87)).heap[gb306]? = some (.cells #[.slice none 0 0, .slice none 0 0] 38 (0, 0))) := ⟨by (with_reducible repeat (first | refine blk_drewN ?_ _ | refine blk_drew ?_ | refine blk_alloc ?_ _)); refine blk_far ?_ NB306_307.out _; (with_reducible repeat (first | refine blk_drewN ?_ _ | refine blk_drew ?_ | refine blk_alloc ?_ _)); exact BK306.out⟩
                        have n5_ : Aside0 ((w86.setCell ⟨gb307, 1, none⟩ (.slice Ao87 y313.length co87)).heap[gb307]? = some (.cells #[u308000, .slice Ao87 y313.length co87] 38 (0, 0))) := ⟨by (with_reducible repeat (first | refine blk_drewN ?_ _ | refine blk_drew ?_ | refine blk_alloc ?_ _)); refine blk_put (cs := #[u308000, u308001]) ?_ 1 _ rfl; (with_reducible repeat (first | refine blk_drewN ?_ _ | refine blk_drew ?_ | refine blk_alloc ?_ _)); exact BK307.out⟩
                        have n6_ : Aside0 (Below w.heap.size w (w86.setCell ⟨gb307, 1, none⟩ (.slice Ao87 y313.length co87))) := ⟨by repeat (first | (with_reducible first | exact HB.out | apply below_alloc | apply pw_below_drewN | apply below_drew1 | refine below_set ?_ GE304.out | refine below_set ?_ GE305.out | refine below_set ?_ GE306.out | refine below_set ?_ GE307.out) | exact HB.out)⟩
                        (try clear HO_308000)
                        (try clear HO315)
                        (try clear BK304)
                        (try clear BK305)
                        (try clear BK306)
                        (try clear BK307)
                        (try clear HB)
                        (try rw [sdn_13 w86])
                        generalize (w86.setCell ⟨gb307, 1, none⟩ (.slice Ao87 y313.length co87)) = w89 at n0_ n1_ n2_ n3_ n4_ n5_ n6_ ⊢
                        have HO_308000 := n0_
                        have HO315 := n1_
                        have BK304 := n2_
                        have BK305 := n3_
                        have BK306 := n4_
                        have BK307 := n5_
                        have HB := n6_
                        clear n0_ n1_ n2_ n3_ n4_ n5_ n6_
                        have n0_ := Aside0.mk (Kd.R_drew HO_308000.out)
                        have n1_ := Aside0.mk (Kd.R_drew HO315.out)
                        have n2_ := Aside0.mk (blk_drew BK304.out)
                        have n3_ := Aside0.mk (blk_drew BK305.out)
                        have n4_ := Aside0.mk (blk_drew BK306.out)
                        have n5_ := Aside0.mk (blk_drew BK307.out)
                        have n6_ := Aside0.mk (below_drew1 HB.out)
                        clear HO_308000
                        clear HO315
                        clear BK304
                        clear BK305
                        clear BK306
                        clear BK307
                        clear HB
                        have HO_308000 := n0_
                        have HO315 := n1_
                        have BK304 := n2_
                        have BK305 := n3_
                        have BK306 := n4_
                        have BK307 := n5_
                        have HB := n6_
                        clear n0_ n1_ n2_ n3_ n4_ n5_ n6_
                        have p316 : 0 ≤ (x11_3 : Int) := of_decide_eq_true (by first | (with_reducible assumption) | assumption)
                        have q316 : x11_3 < (l0_0.length : Int) := of_decide_eq_true (by first | (with_reducible assumption) | assumption)
                        obtain ⟨ad316, e316, hx316_0⟩ := Kd.at_int HR0_0.out x11_3 p316 q316
                        have hw316_0 := hx316_0
                        cases e316
                        replace hx316_0 := (HB.out.cell (World.block_lt_of_cell? w _ hx316_0)).trans hx316_0
                        replace p316 := eq_true p316
                        replace q316 := eq_true q316
                        refine start_ (n := 16) (S := fun w' => w'.cell? ⟨gb307, 0, none⟩ = some (u308000) ∧ w'.cell? ⟨gb307, 1, none⟩ = some (.slice Ao87 y313.length co87) ∧ w'.cell? ⟨gb304, 0, none⟩ = some (.slice (some ad316) l0_0.length c0_0) ∧ w'.cell? ⟨gb304, 1, none⟩ = some (.slice (some ad310) l0_1.length c0_1) ∧ w'.cell? ⟨gb305, 0, none⟩ = some (.int .i64 a3_0) ∧ w'.cell? ⟨gb305, 1, none⟩ = some (.int .i64 a3_1) ∧ w'.cell? ⟨gb305, 2, none⟩ = some (.int .i64 a3_2) ∧ w'.cell? (ad316.add (x11_3).toNat) = some (.int .i64 (rd l0_0 x11_3))) (ds := [15]) #[false, false, false, false, false, false, false, false, false, false, false, false, false, false, false, false] (by kernel_rfl) rfl rfl ⟨(blk_cell BK307.out 0).trans rfl, (blk_cell BK307.out 1).trans rfl, (blk_cell BK304.out 0).trans rfl, (blk_cell BK304.out 1).trans rfl, (blk_cell BK305.out 0).trans rfl, (blk_cell BK305.out 1).trans rfl, (blk_cell BK305.out 2).trans rfl, ((HB.out.cell (World.block_lt_of_cell? w _ hw316_0)).trans hw316_0)⟩ (fun hHeld => ?_); refine with_tabW carouselref10_Apply.tab16 carouselref10_Apply.bits16 (fun HT_ HW_ => ?_)
                        generalize w89.drew = w90 at HO_308000 HO315 BK304 BK305 BK306 BK307 HB hx316_0 hHeld ⊢
                        refine pure_ (i := 0) (N := some 91) (v := ?_) (a' := ?_) #[true, false, false, false, false, false, false, false, false, false, false, false, false, false, false, false] rfl rfl (any_of HT_.out (by kernel_rfl)) (fun _ _ _ h => h) (Or.inl ⟨by rfl, ?_⟩) ?_ ?_
                        rotate_left
                        ·intro w'
                         go_simp
                         with_reducible rfl
                        rotate_left
                        ·simp only [Act.put, List.setIfInBounds_toArray, List.set_cons_zero, List.set_cons_succ, i64_w, i32_w]
                         rfl
                        refine pure_ (i := 2) (N := some 93) (v := ?_) (a' := ?_) #[true, false, true, false, false, false, false, false, false, false, false, false, false, false, false, false] rfl rfl (any_of HT_.out (by kernel_rfl)) (fun _ _ _ h => h) (Or.inl ⟨by rfl, ?_⟩) ?_ ?_
                        rotate_left
                        ·intro w'
                         go_simp
                         with_reducible rfl
                        rotate_left
                        ·simp only [Act.put, List.setIfInBounds_toArray, List.set_cons_zero, List.set_cons_succ, i64_w, i32_w]
                         rfl
                        refine pure_ (i := 4) (N := some 95) (v := ?_) (a' := ?_) #[true, false, true, false, true, false, false, false, false, false, false, false, false, false, false, false] rfl rfl (any_of HT_.out (by kernel_rfl)) (fun _ _ _ h => h) (Or.inl ⟨by rfl, ?_⟩) ?_ ?_
                        rotate_left
                        ·intro w'
                         go_simp
                         with_reducible rfl
                        rotate_left
                        ·simp only [Act.put, List.setIfInBounds_toArray, List.set_cons_zero, List.set_cons_succ, i64_w, i32_w]
                         rfl
                        refine pure_ (i := 7) (N := some 98) (v := ?_) (a' := ?_) #[true, false, true, false, true, false, false, true, false, false, false, false, false, false, false, false] rfl rfl (any_of HT_.out (by kernel_rfl)) (fun _ _ _ h => h) (Or.inl ⟨by rfl, ?_⟩) ?_ ?_
                        rotate_left
                        ·intro w'
                         go_simp
                         with_reducible rfl
                        rotate_left
                        ·simp only [Act.put, List.setIfInBounds_toArray, List.set_cons_zero, List.set_cons_succ, i64_w, i32_w]
                         rfl
                        refine pure_ (i := 9) (N := some 100) (v := ?_) (a' := ?_) #[true, false, true, false, true, false, false, true, false, true, false, false, false, false, false, false] rfl rfl (any_of HT_.out (by kernel_rfl)) (fun _ _ _ h => h) (Or.inl ⟨by rfl, ?_⟩) ?_ ?_
                        rotate_left
                        ·intro w'
                         go_simp
                         with_reducible rfl
                        rotate_left
                        ·simp only [Act.put, List.setIfInBounds_toArray, List.set_cons_zero, List.set_cons_succ, i64_w, i32_w]
                         rfl
                        refine take_ (i := 1) (N := some 92) (v := ?_) (a' := ?_) #[true, true, true, false, true, false, false, true, false, true, false, false, false, false, false, false] rfl rfl (take_ofW HT_.out HW_.out (by kernel_rfl)) (fun _ _ _ h => h) (Or.inl ⟨by rfl, ?_⟩) hHeld ?_ ?_
                        rotate_left
                        ·rintro w' ⟨s0, s1, s2, s3, s4, s5, s6, s7⟩
                         go_simp
                         with_reducible rfl
                        rotate_left
                        ·simp only [Act.put, List.setIfInBounds_toArray, List.set_cons_zero, List.set_cons_succ, i64_w, i32_w]
                         rfl
                        refine take_ (i := 3) (N := some 94) (v := ?_) (a' := ?_) #[true, true, true, true, true, false, false, true, false, true, false, false, false, false, false, false] rfl rfl (take_ofW HT_.out HW_.out (by kernel_rfl)) (fun _ _ _ h => h) (Or.inl ⟨by rfl, ?_⟩) hHeld ?_ ?_
                        rotate_left
                        ·rintro w' ⟨s0, s1, s2, s3, s4, s5, s6, s7⟩
                         go_simp
                         with_reducible rfl
                        rotate_left
                        ·simp only [Act.put, List.setIfInBounds_toArray, List.set_cons_zero, List.set_cons_succ, i64_w, i32_w]
                         rfl
                        refine pure_ (i := 5) (N := some 96) (v := ?_) (a' := ?_) #[true, true, true, true, true, true, false, true, false, true, false, false, false, false, false, false] rfl rfl (any_of HT_.out (by kernel_rfl)) (fun _ _ _ h => h) (Or.inl ⟨by rfl, ?_⟩) ?_ ?_
                        rotate_left
                        ·intro w'
                         go_simp
                         with_reducible rfl
                        rotate_left
                        ·simp only [Act.put, List.setIfInBounds_toArray, List.set_cons_zero, List.set_cons_succ, i64_w, i32_w]
                         rfl
                        refine take_ (i := 6) (N := some 97) (v := ?_) (a' := ?_) #[true, true, true, true, true, true, true, true, false, true, false, false, false, false, false, false] rfl rfl (take_ofW HT_.out HW_.out (by kernel_rfl)) (fun _ _ _ h => h) (Or.inl ⟨by rfl, ?_⟩) hHeld ?_ ?_
                        rotate_left
                        ·rintro w' ⟨s0, s1, s2, s3, s4, s5, s6, s7⟩
                         go_simp
                         with_reducible rfl
                        rotate_left
                        ·simp only [Act.put, List.setIfInBounds_toArray, List.set_cons_zero, List.set_cons_succ, i64_w, i32_w]
                         rfl
                        refine take_ (i := 8) (N := some 99) (v := ?_) (a' := ?_) #[true, true, true, true, true, true, true, true, true, true, false, false, false, false, false, false] rfl rfl (take_ofW HT_.out HW_.out (by kernel_rfl)) (fun _ _ _ h => h) (Or.inl ⟨by rfl, ?_⟩) hHeld ?_ ?_
                        rotate_left
                        ·rintro w' ⟨s0, s1, s2, s3, s4, s5, s6, s7⟩
                         go_simp
                         with_reducible rfl
                        rotate_left
                        ·simp only [Act.put, List.setIfInBounds_toArray, List.set_cons_zero, List.set_cons_succ, i64_w, i32_w]
                         rfl
                        refine one_ (i := 10) (N := some 101) #[true, true, true, true, true, true, true, true, true, true, true, false, false, false, false, false] rfl rfl (one_of HT_.out (by kernel_rfl)) (by decide) (fun K hK => ?_)
                        refine goes_ Try.func27 (by kernel_rfl) rfl #[.int .i64 a3_0, .int .i64 t312] (by rfl) rfl rfl (by (try simp only [List.map_toArray, List.map_cons, List.map_nil]); first | done | rfl | (simp only [List.length_drop, List.length_take]; rfl)) ?_
                        with_reducible refine (carouselref1_Mul.calls kj63 a3_0 t312 t317 _ A76.out).mono ?_
                        rintro e w91 ⟨rfl, hb⟩
                        refine ⟨_, rfl, ?_⟩
                        have n0_ := Aside0.mk (Kd.R_below (by (with_reducible repeat (first | apply Kd.R_alloc | apply Kd.R_drewN | apply Kd.R_drew)); exact HO_308000.out) hb)
                        have n1_ := Aside0.mk (Kd.R_below (by (with_reducible repeat (first | apply Kd.R_alloc | apply Kd.R_drewN | apply Kd.R_drew)); exact HO315.out) hb)
                        have n2_ := Aside0.mk (blk_below (g := gb304) (o := .cells #[.slice (some ad316) l0_0.length c0_0, .slice (some ad310) l0_1.length c0_1] 38 (0, 0)) (by (with_reducible repeat (first | refine blk_drewN ?_ _ | refine blk_drew ?_ | refine blk_alloc ?_ _)); exact BK304.out) hb)
                        have n3_ := Aside0.mk (blk_below (g := gb305) (o := .cells #[.int .i64 a3_0, .int .i64 a3_1, .int .i64 a3_2] 41 (0, 0)) (by (with_reducible repeat (first | refine blk_drewN ?_ _ | refine blk_drew ?_ | refine blk_alloc ?_ _)); exact BK305.out) hb)
                        have n4_ := Aside0.mk (blk_below (g := gb306) (o := .cells #[.slice none 0 0, .slice none 0 0] 38 (0, 0)) (by (with_reducible repeat (first | refine blk_drewN ?_ _ | refine blk_drew ?_ | refine blk_alloc ?_ _)); exact BK306.out) hb)
                        have n5_ := Aside0.mk (blk_below (g := gb307) (o := .cells #[u308000, .slice Ao87 y313.length co87] 38 (0, 0)) (by (with_reducible repeat (first | refine blk_drewN ?_ _ | refine blk_drew ?_ | refine blk_alloc ?_ _)); exact BK307.out) hb)
                        have n6_ := Aside0.mk (below_step (by repeat (first | (with_reducible first | exact HB.out | apply below_alloc | apply pw_below_drewN | apply below_drew1 | refine below_set ?_ GE304.out | refine below_set ?_ GE305.out | refine below_set ?_ GE306.out | refine below_set ?_ GE307.out) | exact HB.out)) hb)
                        clear HO_308000
                        clear HO315
                        clear BK304
                        clear BK305
                        clear BK306
                        clear BK307
                        clear HB
                        have HO_308000 := n0_
                        have HO315 := n1_
                        have BK304 := n2_
                        have BK305 := n3_
                        have BK306 := n4_
                        have BK307 := n5_
                        have HB := n6_
                        clear n0_ n1_ n2_ n3_ n4_ n5_ n6_
                        (try clear hb)
                        (try clear hb2)
                        (try clear hk)
                        (try clear hi)
                        refine hK.out _ _ ⟨(blk_cell BK307.out 0).trans rfl, (blk_cell BK307.out 1).trans rfl, (blk_cell BK304.out 0).trans rfl, (blk_cell BK304.out 1).trans rfl, (blk_cell BK305.out 0).trans rfl, (blk_cell BK305.out 1).trans rfl, (blk_cell BK305.out 2).trans rfl, ((HB.out.cell (World.block_lt_of_cell? w _ hw316_0)).trans hw316_0)⟩ (fun hHeld => ?_)
                        clear hK K
                        refine norm_ (a' := ?_) ?_ ?_
                        rotate_left
                        ·show Act.put _ (some 101) _ = _
                         simp only [Act.put, List.setIfInBounds_toArray, List.set_cons_zero, List.set_cons_succ, i64_w, i32_w]
                         rfl
                        refine one_ (i := 11) (N := some 102) #[true, true, true, true, true, true, true, true, true, true, true, true, false, false, false, false] rfl rfl (one_of HT_.out (by kernel_rfl)) (by decide) (fun K hK => ?_)
                        refine goes_ Try.func18 (by kernel_rfl) rfl #[.int .i64 (rd l0_0 x11_3), .int .i64 t317] (by rfl) rfl rfl (by (try simp only [List.map_toArray, List.map_cons, List.map_nil]); first | done | rfl | (simp only [List.length_drop, List.length_take]; rfl)) ?_
                        with_reducible refine (carouselref1_Sub.calls kj63 (rd l0_0 x11_3) t317 t318 _ A77.out).mono ?_
                        rintro e w92 ⟨rfl, hb⟩
                        refine ⟨_, rfl, ?_⟩
                        have n0_ := Aside0.mk (Kd.R_below (by (with_reducible repeat (first | apply Kd.R_alloc | apply Kd.R_drewN | apply Kd.R_drew)); exact HO_308000.out) hb)
                        have n1_ := Aside0.mk (Kd.R_below (by (with_reducible repeat (first | apply Kd.R_alloc | apply Kd.R_drewN | apply Kd.R_drew)); exact HO315.out) hb)
                        have n2_ := Aside0.mk (blk_below (g := gb304) (o := .cells #[.slice (some ad316) l0_0.length c0_0, .slice (some ad310) l0_1.length c0_1] 38 (0, 0)) (by (with_reducible repeat (first | refine blk_drewN ?_ _ | refine blk_drew ?_ | refine blk_alloc ?_ _)); exact BK304.out) hb)
                        have n3_ := Aside0.mk (blk_below (g := gb305) (o := .cells #[.int .i64 a3_0, .int .i64 a3_1, .int .i64 a3_2] 41 (0, 0)) (by (with_reducible repeat (first | refine blk_drewN ?_ _ | refine blk_drew ?_ | refine blk_alloc ?_ _)); exact BK305.out) hb)
                        have n4_ := Aside0.mk (blk_below (g := gb306) (o := .cells #[.slice none 0 0, .slice none 0 0] 38 (0, 0)) (by (with_reducible repeat (first | refine blk_drewN ?_ _ | refine blk_drew ?_ | refine blk_alloc ?_ _)); exact BK306.out) hb)
                        have n5_ := Aside0.mk (blk_below (g := gb307) (o := .cells #[u308000, .slice Ao87 y313.length co87] 38 (0, 0)) (by (with_reducible repeat (first | refine blk_drewN ?_ _ | refine blk_drew ?_ | refine blk_alloc ?_ _)); exact BK307.out) hb)
                        have n6_ := Aside0.mk (below_step (by repeat (first | (with_reducible first | exact HB.out | apply below_alloc | apply pw_below_drewN | apply below_drew1 | refine below_set ?_ GE304.out | refine below_set ?_ GE305.out | refine below_set ?_ GE306.out | refine below_set ?_ GE307.out) | exact HB.out)) hb)
                        clear HO_308000
                        clear HO315
                        clear BK304
                        clear BK305
                        clear BK306
                        clear BK307
                        clear HB
                        have HO_308000 := n0_
                        have HO315 := n1_
                        have BK304 := n2_
                        have BK305 := n3_
                        have BK306 := n4_
                        have BK307 := n5_
                        have HB := n6_
                        clear n0_ n1_ n2_ n3_ n4_ n5_ n6_
                        (try clear hb)
                        (try clear hb2)
                        (try clear hk)
                        (try clear hi)
                        refine hK.out _ _ ⟨(blk_cell BK307.out 0).trans rfl, (blk_cell BK307.out 1).trans rfl, (blk_cell BK304.out 0).trans rfl, (blk_cell BK304.out 1).trans rfl, (blk_cell BK305.out 0).trans rfl, (blk_cell BK305.out 1).trans rfl, (blk_cell BK305.out 2).trans rfl, ((HB.out.cell (World.block_lt_of_cell? w _ hw316_0)).trans hw316_0)⟩ (fun hHeld => ?_)
                        clear hK K
                        refine norm_ (a' := ?_) ?_ ?_
                        rotate_left
                        ·show Act.put _ (some 102) _ = _
                         simp only [Act.put, List.setIfInBounds_toArray, List.set_cons_zero, List.set_cons_succ, i64_w, i32_w]
                         rfl
                        refine one_ (i := 12) (N := some 103) #[true, true, true, true, true, true, true, true, true, true, true, true, true, false, false, false] rfl rfl (one_of HT_.out (by kernel_rfl)) (by decide) (fun K hK => ?_)
                        refine value_ (w1 := ?_) (v := ?_) (by rfl) rfl ?_ ?_
                        rotate_left 2
                        ·go_simp
                         constructor
                         ·rfl
                         ·rfl
                        refine hK.out _ _ ⟨(blk_cell (blk_alloc BK307.out _) 0).trans rfl, (blk_cell (blk_alloc BK307.out _) 1).trans rfl, (blk_cell (blk_alloc BK304.out _) 0).trans rfl, (blk_cell (blk_alloc BK304.out _) 1).trans rfl, (blk_cell (blk_alloc BK305.out _) 0).trans rfl, (blk_cell (blk_alloc BK305.out _) 1).trans rfl, (blk_cell (blk_alloc BK305.out _) 2).trans rfl, (World.cell?_alloc_lt _ _ _ (World.block_lt_of_cell? _ _ (((HB.out.cell (World.block_lt_of_cell? w _ hw316_0)).trans hw316_0)))).trans (((HB.out.cell (World.block_lt_of_cell? w _ hw316_0)).trans hw316_0))⟩ (fun hHeld => ?_)
                        clear hK K
                        refine norm_ (a' := ?_) ?_ ?_
                        rotate_left
                        ·show Act.put _ (some 103) _ = _
                         simp only [Act.put, List.setIfInBounds_toArray, List.set_cons_zero, List.set_cons_succ, i64_w, i32_w]
                         rfl
                        refine one_ (i := 13) (N := some 104) #[true, true, true, true, true, true, true, true, true, true, true, true, true, true, false, false] rfl rfl (one_of HT_.out (by kernel_rfl)) (by decide) (fun K hK => ?_)
                        refine Kd.R_append_step (Kd.int .i64) (w0 := w) w.heap.size (by rfl) (.tmp 92) (.tmp 103) 23 27 (.int .i64 0) 8 rfl Try.underlying23 info27 rfl (by decide) (by omega) u308000 x308000_3 t318 [.int .i64 t318] (fun k_ => some k_ ≠ (.slice Ao87 y313.length co87 : Value).ownBlock) (fun _ => False) rfl rfl ?aP (fun _ hk => hk.elim) ?aF ?aO ?aB ?aS ?aL ?_
                        (case aP => exact rfl)
                        (case aB => exact (by repeat (first | (with_reducible first | exact HB.out | apply below_alloc | apply pw_below_drewN | apply below_drew1 | refine below_set ?_ GE304.out | refine below_set ?_ GE305.out | refine below_set ?_ GE306.out | refine below_set ?_ GE307.out) | exact HB.out)))
                        (case aF => exact (fun k_ hk => Kd.fresh' (Kd.R_lt (by (with_reducible repeat (first | apply Kd.R_alloc | apply Kd.R_drewN | apply Kd.R_drew)); exact HO315.out)) k_ hk))
                        (case aO => exact (by (with_reducible repeat (first | apply Kd.R_alloc | apply Kd.R_drewN | apply Kd.R_drew)); exact HO_308000.out))
                        (case aS => exact (below_size (by repeat (first | (with_reducible first | exact HB.out | apply below_alloc | apply pw_below_drewN | apply below_drew1 | refine below_set ?_ GE304.out | refine below_set ?_ GE305.out | refine below_set ?_ GE306.out | refine below_set ?_ GE307.out) | exact HB.out))))
                        (case aL => have := LMc78.out; omega)
                        intro v320 w93 ho hb hg hat
                        rw [← Ny319.out] at ho
                        have n0_ := Aside0.mk (blk_grown (g := gb304) (o := .cells #[.slice (some ad316) l0_0.length c0_0, .slice (some ad310) l0_1.length c0_1] 38 (0, 0)) (by (with_reducible repeat (first | refine blk_drewN ?_ _ | refine blk_drew ?_ | refine blk_alloc ?_ _)); exact BK304.out) hg (Kd.R_ne HO_308000.out BK304.out (by decide)))
                        have n1_ := Aside0.mk (blk_grown (g := gb305) (o := .cells #[.int .i64 a3_0, .int .i64 a3_1, .int .i64 a3_2] 41 (0, 0)) (by (with_reducible repeat (first | refine blk_drewN ?_ _ | refine blk_drew ?_ | refine blk_alloc ?_ _)); exact BK305.out) hg (Kd.R_ne HO_308000.out BK305.out (by decide)))
                        have n2_ := Aside0.mk (blk_grown (g := gb306) (o := .cells #[.slice none 0 0, .slice none 0 0] 38 (0, 0)) (by (with_reducible repeat (first | refine blk_drewN ?_ _ | refine blk_drew ?_ | refine blk_alloc ?_ _)); exact BK306.out) hg (Kd.R_ne HO_308000.out BK306.out (by decide)))
                        have n3_ := Aside0.mk (blk_grown (g := gb307) (o := .cells #[u308000, .slice Ao87 y313.length co87] 38 (0, 0)) (by (with_reducible repeat (first | refine blk_drewN ?_ _ | refine blk_drew ?_ | refine blk_alloc ?_ _)); exact BK307.out) hg (Kd.R_ne HO_308000.out BK307.out (by decide)))
                        have n4_ := Aside0.mk (Kd.R_after (ok := (fun _ => True)) (by (with_reducible repeat (first | apply Kd.R_alloc | apply Kd.R_drewN | apply Kd.R_drew)); exact Kd.R_mono HO315.out (fun _ hk => ⟨trivial, hk⟩)) hg hat)
                        have n5_ := Aside0.mk (hb)
                        have n6_ := Aside0.mk (ho)
                        clear BK304
                        clear BK305
                        clear BK306
                        clear BK307
                        clear HO315
                        clear HB
                        clear HO_308000
                        have BK304 := n0_
                        have BK305 := n1_
                        have BK306 := n2_
                        have BK307 := n3_
                        have HO315 := n4_
                        have HB := n5_
                        have HO321 := n6_
                        clear n0_ n1_ n2_ n3_ n4_ n5_ n6_
                        clear ho hb hg hat
                        obtain ⟨Ao94, co94, eo94⟩ := Kd.R_slice HO321.out
                        (first | subst eo94 | (injection eo94 with f1_ f2_ f3_; have f4_ := f1_.symm; have f5_ := f3_.symm; clear f1_ f2_ f3_; subst f4_; subst f5_))
                        refine hK.out _ _ ⟨(blk_cell BK307.out 0).trans rfl, (blk_cell BK307.out 1).trans rfl, (blk_cell BK304.out 0).trans rfl, (blk_cell BK304.out 1).trans rfl, (blk_cell BK305.out 0).trans rfl, (blk_cell BK305.out 1).trans rfl, (blk_cell BK305.out 2).trans rfl, ((HB.out.cell (World.block_lt_of_cell? w _ hw316_0)).trans hw316_0)⟩ (fun hHeld => ?_)
                        clear hK K
                        refine norm_ (a' := ?_) ?_ ?_
                        rotate_left
                        ·show Act.put _ (some 104) _ = _
                         simp only [Act.put, List.setIfInBounds_toArray, List.set_cons_zero, List.set_cons_succ, i64_w, i32_w]
                         rfl
                        refine pure_ (i := 14) (N := some 105) (v := ?_) (a' := ?_) #[true, true, true, true, true, true, true, true, true, true, true, true, true, true, true, false] rfl rfl (any_of HT_.out (by kernel_rfl)) (fun _ _ _ h => h) (Or.inl ⟨by rfl, ?_⟩) ?_ ?_
                        rotate_left
                        ·intro w'
                         go_simp
                         with_reducible rfl
                        rotate_left
                        ·simp only [Act.put, List.setIfInBounds_toArray, List.set_cons_zero, List.set_cons_succ, i64_w, i32_w]
                         rfl
                        refine last_ (i := 15) (N := none) #[true, true, true, true, true, true, true, true, true, true, true, true, true, true, true, true] rfl rfl (one_of HT_.out (by kernel_rfl)) (by decide) (fun K hK => ?_)
                        have hs95 : w93.cell? ⟨gb307, 0, none⟩ = some (u308000) := (blk_cell BK307.out 0).trans rfl
                        have hfs95 := blk_frozen BK307.out 0
                        have hns95_0 := NB304_307.out
                        have hns95_1 := NB305_307.out
                        have hns95_2 := NB306_307.out
                        have hms95_0 := NB307_304.out
                        have hms95_1 := NB307_305.out
                        have hms95_2 := NB307_306.out
                        refine skip_ (w1 := ?_) (by rfl) rfl ?_ ?_
                        rotate_left
                        ·go_simp
                         rfl
                        refine hK.out _ _ ?_
                        clear hK K
                        refine done_ (done_of HT_.out (by kernel_rfl)) ?_
                        try go_wp2
                        go_roundg kj63
                        case measure => have := HJ4.out; have := HJ19.out; have := HK3.out; have := HJ36.out; have := HJ47.out; have := HJ53.out; have := HJ63.out; omega
                        case rel => exact ⟨(wrap64 (x11_3 + 1)), (y319), (y313), (.slice Ao94 y319.length co94), (.slice Ao87 y313.length co87), (by first | rfl | (simp; done) | (simp [*]; done)), H', ⟨by have := HJ4.out; have := HJ19.out; have := HK3.out; have := HJ36.out; have := HJ47.out; have := HJ53.out; have := HJ63.out; omega⟩, ⟨by (with_reducible repeat (first | apply Kd.R_alloc | apply Kd.R_drewN | apply Kd.R_drew)); exact Kd.R_mono (Kd.R_far (p := ⟨gb307, 0, none⟩) (Kd.R_types HO321.out BK307.out (by decide)) (fun _ hk => hk.2) (.slice Ao94 y319.length co94)) (fun _ hk => hk.1)⟩, ⟨by (with_reducible repeat (first | apply Kd.R_alloc | apply Kd.R_drewN | apply Kd.R_drew)); exact Kd.R_mono (Kd.R_far (p := ⟨gb307, 0, none⟩) (Kd.R_types HO315.out BK307.out (by decide)) (fun _ hk => hk.2) (.slice Ao94 y319.length co94)) (fun _ hk => hk.1.2)⟩, ⟨by (with_reducible repeat (first | refine blk_drewN ?_ _ | refine blk_drew ?_ | refine blk_alloc ?_ _)); refine blk_far ?_ NB304_307.out _; (with_reducible repeat (first | refine blk_drewN ?_ _ | refine blk_drew ?_ | refine blk_alloc ?_ _)); exact BK304.out⟩, ⟨by (with_reducible repeat (first | refine blk_drewN ?_ _ | refine blk_drew ?_ | refine blk_alloc ?_ _)); refine blk_far ?_ NB305_307.out _; (with_reducible repeat (first | refine blk_drewN ?_ _ | refine blk_drew ?_ | refine blk_alloc ?_ _)); exact BK305.out⟩, ⟨by (with_reducible repeat (first | refine blk_drewN ?_ _ | refine blk_drew ?_ | refine blk_alloc ?_ _)); refine blk_far ?_ NB306_307.out _; (with_reducible repeat (first | refine blk_drewN ?_ _ | refine blk_drew ?_ | refine blk_alloc ?_ _)); exact BK306.out⟩, ⟨by (with_reducible repeat (first | refine blk_drewN ?_ _ | refine blk_drew ?_ | refine blk_alloc ?_ _)); refine blk_put (cs := #[u308000, .slice Ao87 y313.length co87]) ?_ 0 _ rfl; (with_reducible repeat (first | refine blk_drewN ?_ _ | refine blk_drew ?_ | refine blk_alloc ?_ _)); exact BK307.out⟩, ⟨by repeat (first | (with_reducible first | exact HB.out | apply below_alloc | apply pw_below_drewN | apply below_drew1 | refine below_set ?_ GE304.out | refine below_set ?_ GE305.out | refine below_set ?_ GE306.out | refine below_set ?_ GE307.out) | exact HB.out)⟩⟩
                       ·rw [if_neg c78] at H
                        exact absurd H (by simp)
                      ·rw [if_neg c75] at H
                       exact absurd H (by simp)
                     ·rw [if_neg c74] at H
                      exact absurd H (by simp)
                    ·rw [if_neg c71] at H
                     exact absurd H (by simp)
                   ·rw [if_neg c70] at H
                    exact absurd H (by simp)
          ·rw [if_neg c35] at H
           exact absurd H (by simp)
         ·rw [if_neg c34] at H
          have c34b0 : decide (x11_3 < (l1.length : Int)) = false := decide_eq_false c34
          clear c34
          simp only [Option.some.injEq, Prod.mk.injEq] at H
          obtain ⟨rfl, rfl, rfl⟩ := H
          have hnb96 := NB307_304.out
          have hnc96 := NB304_307.out
          have hnb97 := NB307_305.out
          have hnc97 := NB305_307.out
          have hnb98 := NB307_306.out
          have hnc98 := NB306_307.out
          have hcz99_0 : wr.cell? ⟨gb307, 0, none⟩ = some (u308000) := (blk_cell BK307.out 0).trans rfl
          have hcz99_1 : wr.cell? ⟨gb307, 1, none⟩ = some (u308001) := (blk_cell BK307.out 1).trans rfl
          have hfz99_0 := blk_frozen BK307.out 0
          have hfz99_1 := blk_frozen BK307.out 1
          obtain ⟨Ao100, co100, eo100⟩ := Kd.R_slice HO_308000.out
          subst eo100
          have hnb101 := NB306_304.out
          have hnc101 := NB304_306.out
          have hnb102 := NB306_305.out
          have hnc102 := NB305_306.out
          have hcz103_0 : wr.cell? ⟨gb306, 0, none⟩ = some (.slice none 0 0) := (blk_cell BK306.out 0).trans rfl
          have hcz103_1 : wr.cell? ⟨gb306, 1, none⟩ = some (.slice none 0 0) := (blk_cell BK306.out 1).trans rfl
          have hfz103_0 := blk_frozen BK306.out 0
          have hfz103_1 := blk_frozen BK306.out 1
          obtain ⟨Ao104, co104, eo104⟩ := Kd.R_slice HO_308001.out
          subst eo104
          go_wp2
          refine bodyPost_ret (results_ct rfl _ _ gb306 38 #[.slice Ao100 x308000_3.length co100, .slice Ao104 x308001_3.length co104] (0, 0) _ rfl (by (with_reducible repeat (first | refine blk_drewN ?_ _ | refine blk_drew ?_ | refine blk_alloc ?_ _)); refine blk_put (cs := #[.slice Ao100 x308000_3.length co100, .slice none 0 0]) ?_ 1 _ rfl; (with_reducible repeat (first | refine blk_drewN ?_ _ | refine blk_drew ?_ | refine blk_alloc ?_ _)); refine blk_put (cs := #[.slice none 0 0, .slice none 0 0]) ?_ 0 _ rfl; (with_reducible repeat (first | refine blk_drewN ?_ _ | refine blk_drew ?_ | refine blk_alloc ?_ _)); exact BK306.out) Try.underlying38 rfl (by kernel_rfl)) rfl ?_
          exact ⟨_, _, by first | rfl | (simp [errW_none, errW_some] <;> rfl) | (simp [*, errW_none, errW_some] <;> rfl), by (with_reducible repeat (first | apply Kd.R_alloc | apply Kd.R_drewN | apply Kd.R_drew)); exact Kd.R_mono (Kd.R_far (p := ⟨gb306, 1, none⟩) (Kd.R_far (p := ⟨gb306, 0, none⟩) (Kd.R_types HO_308000.out BK306.out (by decide)) (fun _ hk => hk.2) (.slice Ao100 x308000_3.length co100)) (fun _ hk => hk.2) (.slice Ao104 x308001_3.length co104)) (fun _ hk => hk.1), by (with_reducible repeat (first | apply Kd.R_alloc | apply Kd.R_drewN | apply Kd.R_drew)); exact Kd.R_mono (Kd.R_far (p := ⟨gb306, 1, none⟩) (Kd.R_far (p := ⟨gb306, 0, none⟩) (Kd.R_types HO_308001.out BK306.out (by decide)) (fun _ hk => hk.2) (.slice Ao100 x308000_3.length co100)) (fun _ hk => hk.2) (.slice Ao104 x308001_3.length co104)) (fun _ hk => hk.1), by repeat (first | (with_reducible first | exact HB.out | apply below_alloc | apply pw_below_drewN | apply below_drew1 | refine below_set ?_ GE304.out | refine below_set ?_ GE305.out | refine below_set ?_ GE306.out | refine below_set ?_ GE307.out) | exact HB.out)⟩

end Go.Proofs.Ytaanhfcioemekaa.POptSteps
