/- The functions that the law TensTurns reaches, as Lean functions, and that each call of the Go function does what its Lean function says, wherever that one answers. Written by a program of mine over the print of the kit; Lean checks it. -/
import Derived.Test.YtbdhabpplidgfaaPTensTurnsx0
import Derived.Test.YtbdhabpplidgfaaPTensTurnsx11
namespace Go.Proofs.Ytbdhabpplidgfaa.PTensTurns
open Go.RowKit Go.Proofs.YtbdhabpplidgfaaW.PrintWords Go.Proofs.YtbdhabpplidgfaaW.PrintLast Go.Proofs.YtbdhabpplidgfaaW.PrintMore
attribute [local go_sem] max2_int min2_int max_two min_two max_three min_three max_four min_four   -- for this text's walks alone
set_option linter.unusedVariables false
set_option linter.unusedSimpArgs false

/-! ### carouselref5_Join: function 46 -/
mutual
def carouselref5_Join.j0 : Nat → List Int → List Int → Bool → Option (List Int × Int)
 | 0, _, _, _ => none
 | k + 1, x0, x1, x18 => if x18 = true then (some (([] : List Int), 1)) else (if (x1.length : Int) > (x0.length : Int) then (carouselref5_Join.j1 k x0 x1 (x1.length : Int)) else (carouselref5_Join.j1 k x0 x1 (x0.length : Int)))
def carouselref5_Join.j1 : Nat → List Int → List Int → Int → Option (List Int × Int)
 | 0, _, _, _ => none
 | k + 1, x0, x1, x6 => if 0 ≤ x6 then (if (x6 : Int).toNat ≤ 35184372088832 then (carouselref5_Join.l0 k x0 x1 x6 (List.replicate (x6 : Int).toNat 0) 1) else (none)) else (none)
def carouselref5_Join.l0 : Nat → List Int → List Int → Int → List Int → Int → Option (List Int × Int)
 | 0, _, _, _, _, _ => none
 | k + 1, x0, x1, x6, x7, x8 => if x8 ≤ x6 then (if x8 ≤ (x0.length : Int) then (if 0 ≤ (wrap64 ((x0.length : Int) - x8)) then (if (wrap64 ((x0.length : Int) - x8)) < (x0.length : Int) then (carouselref5_Join.j3 k x0 x1 x6 x7 x8 (rd x0 (wrap64 ((x0.length : Int) - x8))) 1) else (none)) else (none)) else (carouselref5_Join.j3 k x0 x1 x6 x7 x8 1 1)) else ((carouselref5_Good.f k x7).bind fun t434 => (if t434 = true then (some (x7, 0)) else (some (([] : List Int), 2))))
def carouselref5_Join.j3 : Nat → List Int → List Int → Int → List Int → Int → Int → Int → Option (List Int × Int)
 | 0, _, _, _, _, _, _, _ => none
 | k + 1, x0, x1, x6, x7, x8, x9, x10 => if x8 ≤ (x1.length : Int) then (if 0 ≤ (wrap64 ((x1.length : Int) - x8)) then (if (wrap64 ((x1.length : Int) - x8)) < (x1.length : Int) then (carouselref5_Join.j4 k x0 x1 x6 x7 x8 x9 (rd x1 (wrap64 ((x1.length : Int) - x8)))) else (none)) else (none)) else (carouselref5_Join.j4 k x0 x1 x6 x7 x8 x9 x10)
def carouselref5_Join.j4 : Nat → List Int → List Int → Int → List Int → Int → Int → Int → Option (List Int × Int)
 | 0, _, _, _, _, _, _, _ => none
 | k + 1, x0, x1, x6, x7, x8, x9, x10 => if x9 = x10 then (carouselref5_Join.j5 k x0 x1 x6 x7 x8 x9 x10 false) else (if x9 = 1 then (carouselref5_Join.j5 k x0 x1 x6 x7 x8 x9 x10 false) else (carouselref5_Join.j5 k x0 x1 x6 x7 x8 x9 x10 (x10 != 1)))
def carouselref5_Join.j5 : Nat → List Int → List Int → Int → List Int → Int → Int → Int → Bool → Option (List Int × Int)
 | 0, _, _, _, _, _, _, _, _ => none
 | k + 1, x0, x1, x6, x7, x8, x9, x10, x66 => if x66 = true then (some (([] : List Int), 4)) else (if x10 > x9 then (if 0 ≤ (wrap64 (x6 - x8)) then (if (wrap64 (x6 - x8)) < (x7.length : Int) then (carouselref5_Join.l0 k x0 x1 x6 (x7.set ((wrap64 (x6 - x8)) : Int).toNat x10) (wrap64 (x8 + 1))) else (none)) else (none)) else (if 0 ≤ (wrap64 (x6 - x8)) then (if (wrap64 (x6 - x8)) < (x7.length : Int) then (carouselref5_Join.l0 k x0 x1 x6 (x7.set ((wrap64 (x6 - x8)) : Int).toNat x9) (wrap64 (x8 + 1))) else (none)) else (none)))
end
def carouselref5_Join.f (k : Nat) (l0 : List Int) (l1 : List Int) : Option (List Int × Int) := (carouselref5_Good.f k l0).bind fun t429 => (if t429 = true then ((carouselref5_Good.f k l1).bind fun t430 => (carouselref5_Join.j0 k l0 l1 (!t430))) else (carouselref5_Join.j0 k l0 l1 true))
theorem carouselref5_Join.mono_l : ∀ k, (∀ y0 y1 y2, LeO (carouselref5_Join.j0 k y0 y1 y2) (carouselref5_Join.j0 (k + 1) y0 y1 y2)) ∧ (∀ y0 y1 y2, LeO (carouselref5_Join.j1 k y0 y1 y2) (carouselref5_Join.j1 (k + 1) y0 y1 y2)) ∧ (∀ y0 y1 y2 y3 y4, LeO (carouselref5_Join.l0 k y0 y1 y2 y3 y4) (carouselref5_Join.l0 (k + 1) y0 y1 y2 y3 y4)) ∧ (∀ y0 y1 y2 y3 y4 y5 y6, LeO (carouselref5_Join.j3 k y0 y1 y2 y3 y4 y5 y6) (carouselref5_Join.j3 (k + 1) y0 y1 y2 y3 y4 y5 y6)) ∧ (∀ y0 y1 y2 y3 y4 y5 y6, LeO (carouselref5_Join.j4 k y0 y1 y2 y3 y4 y5 y6) (carouselref5_Join.j4 (k + 1) y0 y1 y2 y3 y4 y5 y6)) ∧ (∀ y0 y1 y2 y3 y4 y5 y6 y7, LeO (carouselref5_Join.j5 k y0 y1 y2 y3 y4 y5 y6 y7) (carouselref5_Join.j5 (k + 1) y0 y1 y2 y3 y4 y5 y6 y7))
 | 0 => ⟨fun _ _ _ r h => by simp [carouselref5_Join.j0] at h, fun _ _ _ r h => by simp [carouselref5_Join.j1] at h, fun _ _ _ _ _ r h => by simp [carouselref5_Join.l0] at h, fun _ _ _ _ _ _ _ r h => by simp [carouselref5_Join.j3] at h, fun _ _ _ _ _ _ _ r h => by simp [carouselref5_Join.j4] at h, fun _ _ _ _ _ _ _ _ r h => by simp [carouselref5_Join.j5] at h⟩
 | k + 1 => by
  obtain ⟨ih0, ih1, ih2, ih3, ih4, ih5⟩ := carouselref5_Join.mono_l k
  refine ⟨?_, ?_, ?_, ?_, ?_, ?_⟩
  ·intro y0 y1 y2
   unfold carouselref5_Join.j0
   repeat' first
   | (with_reducible exact ih0 _ _ _)
   | (with_reducible exact ih1 _ _ _)
   | (with_reducible exact ih2 _ _ _ _ _)
   | (with_reducible exact ih3 _ _ _ _ _ _ _)
   | (with_reducible exact ih4 _ _ _ _ _ _ _)
   | (with_reducible exact ih5 _ _ _ _ _ _ _ _)
   | (with_reducible exact LeO.refl _)
   | (with_reducible exact LeO.none _)
   | (with_reducible refine LeO.ite ?_ ?_)
   | (with_reducible refine LeO.bind ?_ (fun _ => ?_))
   | exact ih0 _ _ _
   | exact ih1 _ _ _
   | exact ih2 _ _ _ _ _
   | exact ih3 _ _ _ _ _ _ _
   | exact ih4 _ _ _ _ _ _ _
   | exact ih5 _ _ _ _ _ _ _ _
   | exact LeO.none _
   | refine LeO.ite ?_ ?_
   | refine LeO.bind ?_ (fun _ => ?_)
  ·intro y0 y1 y2
   unfold carouselref5_Join.j1
   repeat' first
   | (with_reducible exact ih0 _ _ _)
   | (with_reducible exact ih1 _ _ _)
   | (with_reducible exact ih2 _ _ _ _ _)
   | (with_reducible exact ih3 _ _ _ _ _ _ _)
   | (with_reducible exact ih4 _ _ _ _ _ _ _)
   | (with_reducible exact ih5 _ _ _ _ _ _ _ _)
   | (with_reducible exact LeO.refl _)
   | (with_reducible exact LeO.none _)
   | (with_reducible refine LeO.ite ?_ ?_)
   | (with_reducible refine LeO.bind ?_ (fun _ => ?_))
   | exact ih0 _ _ _
   | exact ih1 _ _ _
   | exact ih2 _ _ _ _ _
   | exact ih3 _ _ _ _ _ _ _
   | exact ih4 _ _ _ _ _ _ _
   | exact ih5 _ _ _ _ _ _ _ _
   | exact LeO.none _
   | refine LeO.ite ?_ ?_
   | refine LeO.bind ?_ (fun _ => ?_)
  ·intro y0 y1 y2 y3 y4
   unfold carouselref5_Join.l0
   repeat' first
   | (with_reducible exact ih0 _ _ _)
   | (with_reducible exact ih1 _ _ _)
   | (with_reducible exact ih2 _ _ _ _ _)
   | (with_reducible exact ih3 _ _ _ _ _ _ _)
   | (with_reducible exact ih4 _ _ _ _ _ _ _)
   | (with_reducible exact ih5 _ _ _ _ _ _ _ _)
   | (with_reducible exact carouselref5_Good.mono _ _)
   | (with_reducible exact LeO.refl _)
   | (with_reducible exact LeO.none _)
   | (with_reducible refine LeO.ite ?_ ?_)
   | (with_reducible refine LeO.bind ?_ (fun _ => ?_))
   | exact ih0 _ _ _
   | exact ih1 _ _ _
   | exact ih2 _ _ _ _ _
   | exact ih3 _ _ _ _ _ _ _
   | exact ih4 _ _ _ _ _ _ _
   | exact ih5 _ _ _ _ _ _ _ _
   | exact carouselref5_Good.mono _ _
   | exact LeO.none _
   | refine LeO.ite ?_ ?_
   | refine LeO.bind ?_ (fun _ => ?_)
  ·intro y0 y1 y2 y3 y4 y5 y6
   unfold carouselref5_Join.j3
   repeat' first
   | (with_reducible exact ih0 _ _ _)
   | (with_reducible exact ih1 _ _ _)
   | (with_reducible exact ih2 _ _ _ _ _)
   | (with_reducible exact ih3 _ _ _ _ _ _ _)
   | (with_reducible exact ih4 _ _ _ _ _ _ _)
   | (with_reducible exact ih5 _ _ _ _ _ _ _ _)
   | (with_reducible exact LeO.refl _)
   | (with_reducible exact LeO.none _)
   | (with_reducible refine LeO.ite ?_ ?_)
   | (with_reducible refine LeO.bind ?_ (fun _ => ?_))
   | exact ih0 _ _ _
   | exact ih1 _ _ _
   | exact ih2 _ _ _ _ _
   | exact ih3 _ _ _ _ _ _ _
   | exact ih4 _ _ _ _ _ _ _
   | exact ih5 _ _ _ _ _ _ _ _
   | exact LeO.none _
   | refine LeO.ite ?_ ?_
   | refine LeO.bind ?_ (fun _ => ?_)
  ·intro y0 y1 y2 y3 y4 y5 y6
   unfold carouselref5_Join.j4
   repeat' first
   | (with_reducible exact ih0 _ _ _)
   | (with_reducible exact ih1 _ _ _)
   | (with_reducible exact ih2 _ _ _ _ _)
   | (with_reducible exact ih3 _ _ _ _ _ _ _)
   | (with_reducible exact ih4 _ _ _ _ _ _ _)
   | (with_reducible exact ih5 _ _ _ _ _ _ _ _)
   | (with_reducible exact LeO.refl _)
   | (with_reducible exact LeO.none _)
   | (with_reducible refine LeO.ite ?_ ?_)
   | (with_reducible refine LeO.bind ?_ (fun _ => ?_))
   | exact ih0 _ _ _
   | exact ih1 _ _ _
   | exact ih2 _ _ _ _ _
   | exact ih3 _ _ _ _ _ _ _
   | exact ih4 _ _ _ _ _ _ _
   | exact ih5 _ _ _ _ _ _ _ _
   | exact LeO.none _
   | refine LeO.ite ?_ ?_
   | refine LeO.bind ?_ (fun _ => ?_)
  ·intro y0 y1 y2 y3 y4 y5 y6 y7
   unfold carouselref5_Join.j5
   repeat' first
   | (with_reducible exact ih0 _ _ _)
   | (with_reducible exact ih1 _ _ _)
   | (with_reducible exact ih2 _ _ _ _ _)
   | (with_reducible exact ih3 _ _ _ _ _ _ _)
   | (with_reducible exact ih4 _ _ _ _ _ _ _)
   | (with_reducible exact ih5 _ _ _ _ _ _ _ _)
   | (with_reducible exact LeO.refl _)
   | (with_reducible exact LeO.none _)
   | (with_reducible refine LeO.ite ?_ ?_)
   | (with_reducible refine LeO.bind ?_ (fun _ => ?_))
   | exact ih0 _ _ _
   | exact ih1 _ _ _
   | exact ih2 _ _ _ _ _
   | exact ih3 _ _ _ _ _ _ _
   | exact ih4 _ _ _ _ _ _ _
   | exact ih5 _ _ _ _ _ _ _ _
   | exact LeO.none _
   | refine LeO.ite ?_ ?_
   | refine LeO.bind ?_ (fun _ => ?_)
theorem carouselref5_Join.mono : ∀ a0 a1 k, LeO (carouselref5_Join.f k a0 a1) (carouselref5_Join.f (k + 1) a0 a1) := by
 intro a0 a1 k
 obtain ⟨ih0, ih1, ih2, ih3, ih4, ih5⟩ := carouselref5_Join.mono_l k
 unfold carouselref5_Join.f
 repeat' first
   | (with_reducible exact ih0 _ _ _)
   | (with_reducible exact ih1 _ _ _)
   | (with_reducible exact ih2 _ _ _ _ _)
   | (with_reducible exact ih3 _ _ _ _ _ _ _)
   | (with_reducible exact ih4 _ _ _ _ _ _ _)
   | (with_reducible exact ih5 _ _ _ _ _ _ _ _)
   | (with_reducible exact carouselref5_Good.mono _ _)
   | (with_reducible exact LeO.refl _)
   | (with_reducible exact LeO.none _)
   | (with_reducible refine LeO.ite ?_ ?_)
   | (with_reducible refine LeO.bind ?_ (fun _ => ?_))
   | exact ih0 _ _ _
   | exact ih1 _ _ _
   | exact ih2 _ _ _ _ _
   | exact ih3 _ _ _ _ _ _ _
   | exact ih4 _ _ _ _ _ _ _
   | exact ih5 _ _ _ _ _ _ _ _
   | exact carouselref5_Good.mono _ _
   | exact LeO.none _
   | refine LeO.ite ?_ ?_
   | refine LeO.bind ?_ (fun _ => ?_)
set_option maxHeartbeats 8000000 in
set_option maxRecDepth 100000 in
theorem carouselref5_Join.calls (k : Nat) (A0 : Option Addr) (c0 : Nat) (l0 : List Int) (A1 : Option Addr) (c1 : Nat) (l1 : List Int) (r1 : List Int) (r2 : Int) (w : World) (hr0 : Kd.C (Kd.int .i64) w A0 l0.length l0) (hc0 : l0.length ≤ c0) (hr1 : Kd.C (Kd.int .i64) w A1 l1.length l1) (hc1 : l1.length ≤ c1) (h : carouselref5_Join.f k l0 l1 = some (r1, r2)) :
  Calls Try.prog 46 #[.slice A0 l0.length c0, .slice A1 l1.length c1] w fun e w' => ∃ v0_ : Value, e = .returned (.tuple #[v0_, .int .i64 r2]) ∧ Kd.R (Kd.int .i64) 3 w' w.heap.size (fun _ => True) v0_ r1 ∧ Below w.heap.size w w' := by
 have HR0 := Aside0.mk hr0
 have HC0 := Aside0.mk hc0
 clear hr0 hc0
 have HR1 := Aside0.mk hr1
 have HC1 := Aside0.mk hc1
 clear hr1 hc1
 have HB := Aside0.mk (Below.refl w.heap.size w)
 have H : ((carouselref5_Good.f k l0).bind fun t429 => (if t429 = true then ((carouselref5_Good.f k l1).bind fun t430 => (carouselref5_Join.j0 k l0 l1 (!t430))) else (carouselref5_Join.j0 k l0 l1 true))) = some (r1, r2) := h
 clear h
 have HC3 := Aside0.mk H
 clear H
 go_enter Try.func46, Try.ntmps46
 go_upto_region 1 with (fail)
 go_cut [18] (fun v18 wc => ∃ (kq : Nat) (x18_2 : Bool), v18 = .bool x18_2 ∧ Aside0 (carouselref5_Join.j0 kq l0 l1 x18_2 = some (r1, r2)) ∧ Aside0 (kq ≤ k) ∧ Aside0 (Below w.heap.size w wc))
 case first =>
  have H := HC3.out
  clear HC3
  replace H := Option.bind_eq_some_iff.mp H
  obtain ⟨t429, A40, H⟩ := H
  (try dsimp only at H)
  have A4 := Aside0.mk A40
  clear A40
  by_cases c5 : t429 = true
  rotate_left
  ·replace c5 := Bool.eq_false_iff.mpr c5
   subst c5
   have H1 : (carouselref5_Join.j0 k l0 l1 true) = some (r1, r2) := by rw [if_neg (show ¬ (false = true) by decide)] at H; exact H
   clear H
   have H := H1
   clear H1
   have H' := Aside0.mk H
   clear H
   go_wp2_with (first | ((with_reducible refine gate_callee (f := 13) rfl ?_); refine zg_ (some 12) Try.func13 #[.slice A0 l0.length c0] (h := ?_); (with_reducible refine (carouselref5_Good.calls k _ _ l0 false _ ?side1 ?side2 A4.out).mono ?_); (case side1 => exact zk_ (Kd.C_below HR0.out HB.out)); (case side2 => exact HC0.out); rintro e w' ⟨rfl, ⟨nd, rfl⟩⟩; refine ⟨_, rfl, ?_⟩))
   go_meet
   case rel => exact ⟨_, (true), z1_, H', ⟨by first | omega | exact Nat.le_refl _⟩, ⟨zw0_ HB⟩⟩
  subst c5
  have H1 : ((carouselref5_Good.f k l1).bind fun t430 => (carouselref5_Join.j0 k l0 l1 (!t430))) = some (r1, r2) := by rw [if_pos rfl] at H; exact H
  clear H
  have H := H1
  clear H1
  replace H := Option.bind_eq_some_iff.mp H
  obtain ⟨t430, A60, H⟩ := H
  replace H : (carouselref5_Join.j0 k l0 l1 (!t430)) = some (r1, r2) := H
  have A6 := Aside0.mk A60
  clear A60
  have H' := Aside0.mk H
  clear H
  go_wp2_with (first | ((with_reducible refine gate_callee (f := 13) rfl ?_); refine zg_ (some 12) Try.func13 #[.slice A0 l0.length c0] (h := ?_); (with_reducible refine (carouselref5_Good.calls k _ _ l0 true _ ?side1 ?side2 A4.out).mono ?_); (case side1 => exact zk_ (Kd.C_below HR0.out HB.out)); (case side2 => exact HC0.out); rintro e w' ⟨rfl, ⟨nd, rfl⟩⟩; refine ⟨_, rfl, ?_⟩) | (go_at_call 13; (with_reducible refine (carouselref5_Good.calls k _ _ l1 t430 _ ?side1 ?side2 A6.out).mono ?_); (case side1 => repeat (first | exact (Kd.C_below HR1.out (zw0_ HB)) | (with_reducible refine Kd.C_alloc ?_ _) | (with_reducible refine Kd.C_drewN ?_ _) | (with_reducible refine Kd.C_drew ?_))); (case side2 => exact HC1.out); rintro e w' ⟨rfl, ⟨nd, rfl⟩⟩))
  go_meet
  case rel => exact ⟨_, (!t430), z1_, H', ⟨by first | omega | exact Nat.le_refl _⟩, ⟨zw0_ HB⟩⟩
 case rest =>
  clear HC3
  try clear c1
  try clear p2
  try clear c4
  try clear c5
  obtain ⟨kq, x18_2, rfl, HA, HJ2, HB⟩ := hcut
  cases kq with
  | zero => exact absurd HA.out (by simp [carouselref5_Join.j0])
  | succ kj2 =>
   have H := HA.out
   clear HA
   simp only [carouselref5_Join.j0] at H
   by_cases c7 : x18_2 = true
   ·subst c7
    have H1 : (some (([] : List Int), 1)) = some (r1, r2) := by rw [if_pos rfl] at H; exact H
    clear H
    have H := H1
    clear H1
    simp only [Option.some.injEq, Prod.mk.injEq] at H
    obtain ⟨rfl, rfl⟩ := H
    go_wp2
    go_ret2
    exact ⟨_, z0_, z2_, zw0_ HB⟩
   replace c7 := Bool.eq_false_iff.mpr c7
   subst c7
   have H1 := H
   rw [if_neg (show ¬ (false = true) by decide)] at H1
   clear H
   have H := H1
   clear H1
   have HC8 := Aside0.mk H
   clear H
   go_upto_if 24 with (fail)
   go_cut [6] (fun v6 wc => ∃ (kq : Nat) (x6_7 : Int), v6 = .int .i64 x6_7 ∧ Aside0 (carouselref5_Join.j1 kq l0 l1 x6_7 = some (r1, r2)) ∧ Aside0 (kq ≤ kj2) ∧ Aside0 (Below w.heap.size w wc))
   case first =>
    have H := HC8.out
    clear HC8
    by_cases c9 : (l1.length : Int) > (l0.length : Int)
    ·rw [if_pos c9] at H
     have c9b0 : decide ((l0.length : Int) < (l1.length : Int)) = true := decide_eq_true c9
     have c9b1 : decide (l0.length < l1.length) = true := decide_eq_true (Int.ofNat_lt.mp c9)
     clear c9
     (first | rw [c9b0] | (simp only [i64_w, i32_w]; rw [c9b0]) | rw [c9b1] | skip)
     have H' := Aside0.mk H
     clear H
     go_wp2
     go_meet
     case rel => exact ⟨_, ((l1.length : Int)), z1_, H', ⟨by have := HJ2.out; first | omega | exact Nat.le_refl _⟩, ⟨zw0_ HB⟩⟩
    rw [if_neg c9] at H
    have c9b0 : decide ((l0.length : Int) < (l1.length : Int)) = false := decide_eq_false c9
    have c9b1 : decide (l0.length < l1.length) = false := decide_eq_false (fun h => c9 (Int.ofNat_lt.mpr h))
    clear c9
    (first | rw [c9b0] | (simp only [i64_w, i32_w]; rw [c9b0]) | rw [c9b1] | skip)
    have H' := Aside0.mk H
    clear H
    go_wp2
    go_meet
    case rel => exact ⟨_, ((l0.length : Int)), z1_, H', ⟨by have := HJ2.out; first | omega | exact Nat.le_refl _⟩, ⟨zw0_ HB⟩⟩
   case rest =>
    clear HC8
    try clear c1
    try clear p2
    try clear c4
    try clear c5
    try clear c7
    try clear c9
    try clear c9b0
    try clear c9b1
    try clear p2
    obtain ⟨kq, x6_7, rfl, HA, HJ7, HB⟩ := hcut
    cases kq with
    | zero => exact absurd HA.out (by simp [carouselref5_Join.j1])
    | succ kj7 =>
     have H := HA.out
     clear HA
     simp only [carouselref5_Join.j1] at H
     by_cases c10 : 0 ≤ x6_7
     rotate_left
     ·rw [if_neg c10] at H
      exact absurd H (by simp)
     rw [if_pos c10] at H
     have c10b0 := eq_true c10
     have c10b1 : decide (0 ≤ x6_7) = true := decide_eq_true c10
     clear c10
     by_cases c11 : (x6_7 : Int).toNat ≤ 35184372088832
     rotate_left
     ·rw [if_neg c11] at H
      exact absurd H (by simp)
     rw [if_pos c11] at H
     have c11b0 := eq_true c11
     have c11b1 : decide ((x6_7 : Int).toNat ≤ 35184372088832) = true := decide_eq_true c11
     clear c11
     obtain ⟨y431, hy431⟩ : ∃ y_ : List Int, y_ = (List.replicate (x6_7 : Int).toNat 0) := ⟨_, rfl⟩
     replace H : (carouselref5_Join.l0 kj7 l0 l1 x6_7 y431 1) = some (r1, r2) := by first | (rw [hy431]; with_reducible exact H) | (have H2_ := (Option.bind_some _ _).symm.trans H; rw [hy431]; with_reducible exact H2_) | (have H2_ := (Option.bind_some _ _).symm.trans H; with_reducible exact H2_) | with_reducible exact H | (rw [hy431]; exact H) | exact H
     have Ny431 := Aside0.mk hy431
     clear hy431
     have H' := Aside0.mk H
     clear H
     go_wp2_with (first | ((with_reducible refine gate_dst (N := 28) rfl ?_); refine Kd.R_make (Kd.int .i64) _ 3 rfl (N := 28) rfl 22 _ _ rfl x6_7 rfl rfl Try.underlying22 (.int .i64 0) 8 info3 rfl (by decide) (by omega) 0 (ok := fun _ => True) (okp := fun _ => True) rfl (fun _ hk => hk) trivial (of_decide_eq_true (by first | (with_reducible assumption) | assumption)) (Nat.le_trans (Nat.mul_le_mul_right _ (of_decide_eq_true (by first | (with_reducible assumption) | assumption) : x6_7.toNat ≤ 35184372088832)) (by omega)) (Below.refl _ _) (Nat.le_refl _) ?_; intro v432 w12 ho13 hb hg_ hnew_; clear hg_ hnew_; (first | rw [← Ny431.out] at ho13 | (simp only [Int.reduceToNat] at ho13; rw [← Ny431.out] at ho13)); have HO433 := Aside0.mk (Kd.R_lower ho13 (below_size (zw0_ HB))); replace HB := Aside0.mk (below_step (zw0_ HB) hb); clear hb ho13))
     go_loopg [8] kj7 (fun kq v8 w' => ∃ (x7_3 : List Int) (x8_3 : Int), v8 = .int .i64 x8_3 ∧ Aside0 (carouselref5_Join.l0 kq l0 l1 x6_7 x7_3 x8_3 = some (r1, r2)) ∧ Aside0 (kq ≤ kj7) ∧ Aside0 (Kd.R (Kd.int .i64) 3 w' w.heap.size (fun _ => True) v432 x7_3) ∧ Aside0 (Below w.heap.size w w'))
     case atStart => exact ⟨(y431), (1), z1_, H', ⟨Nat.le_refl _⟩, ⟨zr_ HO433.out⟩, ⟨zw0_ HB⟩⟩
     case round =>
      clear H'
      try clear c1
      try clear p2
      try clear c4
      try clear c5
      try clear c7
      try clear c9
      try clear c9b0
      try clear c9b1
      try clear c10
      try clear c10b0
      try clear c10b1
      try clear c11
      try clear c11b0
      try clear c11b1
      try clear c13
      try clear p2
      obtain ⟨x7_3, x8_3, rfl, HA, HK3, HO_7, HB⟩ := hrel
      cases gk with
      | zero => exact absurd HA.out (by simp [carouselref5_Join.l0])
      | succ k3 =>
       have H := HA.out
       clear HA
       simp only [carouselref5_Join.l0] at H
       by_cases c14 : x8_3 ≤ x6_7
       rotate_left
       ·rw [if_neg c14] at H
        have c14b0 : decide (x8_3 ≤ x6_7) = false := decide_eq_false c14
        clear c14
        replace H := Option.bind_eq_some_iff.mp H
        obtain ⟨t434, A420, H⟩ := H
        replace H : (if t434 = true then (some (x7_3, 0)) else (some (([] : List Int), 2))) = some (r1, r2) := H
        have A42 := Aside0.mk A420
        clear A420
        by_cases c43 : t434 = true
        ·subst c43
         have H1 : (some (x7_3, 0)) = some (r1, r2) := by rw [if_pos rfl] at H; exact H
         clear H
         have H := H1
         clear H1
         simp only [Option.some.injEq, Prod.mk.injEq] at H
         obtain ⟨rfl, rfl⟩ := H
         obtain ⟨Ao44, co44, eo44⟩ := Kd.R_slice HO_7.out
         subst eo44
         go_wp2_with (first | ((with_reducible refine gate_callee (f := 13) rfl ?_); refine zg_ (some 78) Try.func13 #[.slice Ao44 x7_3.length co44] (h := ?_); (with_reducible refine (carouselref5_Good.calls k3 _ _ x7_3 true _ ?side1 ?side2 A42.out).mono ?_); (case side1 => exact zk_ ((Kd.R_reads' HO_7.out).2.2)); (case side2 => exact (Kd.R_reads' HO_7.out).2.1); rintro e w' ⟨rfl, ⟨nd, rfl⟩⟩; refine ⟨_, rfl, ?_⟩))
         go_ret2
         exact ⟨_, z0_, zr_ HO_7.out, zw0_ HB⟩
        replace c43 := Bool.eq_false_iff.mpr c43
        subst c43
        have H1 : (some (([] : List Int), 2)) = some (r1, r2) := by rw [if_neg (show ¬ (false = true) by decide)] at H; exact H
        clear H
        have H := H1
        clear H1
        simp only [Option.some.injEq, Prod.mk.injEq] at H
        obtain ⟨rfl, rfl⟩ := H
        obtain ⟨Ao45, co45, eo45⟩ := Kd.R_slice HO_7.out
        subst eo45
        go_wp2_with (first | ((with_reducible refine gate_callee (f := 13) rfl ?_); refine zg_ (some 78) Try.func13 #[.slice Ao45 x7_3.length co45] (h := ?_); (with_reducible refine (carouselref5_Good.calls k3 _ _ x7_3 false _ ?side1 ?side2 A42.out).mono ?_); (case side1 => exact zk_ ((Kd.R_reads' HO_7.out).2.2)); (case side2 => exact (Kd.R_reads' HO_7.out).2.1); rintro e w' ⟨rfl, ⟨nd, rfl⟩⟩; refine ⟨_, rfl, ?_⟩))
        go_ret2
        exact ⟨_, z0_, z2_, zw0_ HB⟩
       rw [if_pos c14] at H
       have c14b0 : decide (x8_3 ≤ x6_7) = true := decide_eq_true c14
       clear c14
       have HC15 := Aside0.mk H
       clear H
       go_upto_if 37 with (fail)
       go_cut [9] (fun v9 wc => ∃ (kq : Nat) (x9_14 : Int), v9 = .int .i64 x9_14 ∧ Aside0 (carouselref5_Join.j3 kq l0 l1 x6_7 x7_3 x8_3 x9_14 1 = some (r1, r2)) ∧ Aside0 (kq ≤ k3) ∧ Aside0 (Kd.R (Kd.int .i64) 3 wc w.heap.size (fun _ => True) v432 x7_3) ∧ Aside0 (Below w.heap.size w wc))
       case first =>
        have H := HC15.out
        clear HC15
        by_cases c16 : x8_3 ≤ (l0.length : Int)
        rotate_left
        ·rw [if_neg c16] at H
         have c16b0 : decide (x8_3 ≤ (l0.length : Int)) = false := decide_eq_false c16
         clear c16
         (first | rw [c16b0] | (simp only [i64_w, i32_w]; rw [c16b0]) | skip)
         have H' := Aside0.mk H
         clear H
         go_wp2
         go_meet
         case rel => exact ⟨_, (1), z1_, H', ⟨by have := HJ2.out; have := HJ7.out; have := HK3.out; first | omega | exact Nat.le_refl _⟩, ⟨zr_ HO_7.out⟩, ⟨zw0_ HB⟩⟩
        rw [if_pos c16] at H
        have c16b0 : decide (x8_3 ≤ (l0.length : Int)) = true := decide_eq_true c16
        clear c16
        (first | rw [c16b0] | (simp only [i64_w, i32_w]; rw [c16b0]) | skip)
        obtain ⟨ji17, hji17⟩ : ∃ j_ : Int, (wrap64 ((l0.length : Int) - x8_3)) = j_ := ⟨_, rfl⟩
        replace H : (if 0 ≤ (ji17) then (if (ji17) < (l0.length : Int) then (carouselref5_Join.j3 k3 l0 l1 x6_7 x7_3 x8_3 (rd l0 (ji17)) 1) else (none)) else (none)) = some (r1, r2) := by first | (rw [hji17] at H; exact H) | (simp only [hji17] at H ⊢; exact H)
        have hji17w : (IntKind.i64.wrap ((l0.length : Int) - x8_3)) = ji17 := (i64_w _).trans hji17
        by_cases c18 : 0 ≤ (ji17)
        rotate_left
        ·rw [if_neg c18] at H
         exact absurd H (by simp)
        rw [if_pos c18] at H
        have c18b0 : decide (0 ≤ (ji17)) = true := decide_eq_true c18
        clear c18
        by_cases c19 : (ji17) < (l0.length : Int)
        rotate_left
        ·rw [if_neg c19] at H
         exact absurd H (by simp)
        rw [if_pos c19] at H
        have c19b0 : decide ((ji17) < (l0.length : Int)) = true := decide_eq_true c19
        clear c19
        have H' := Aside0.mk H
        clear H
        have p435 : 0 ≤ ((ji17) : Int) := of_decide_eq_true (by first | (with_reducible assumption) | assumption)
        have q435 : (ji17) < (l0.length : Int) := of_decide_eq_true (by first | (with_reducible assumption) | assumption)
        obtain ⟨ad435, e435, hx435_0⟩ := Kd.at_int HR0.out (ji17) p435 q435
        cases e435
        replace hx435_0 := (HB.out.cell (World.block_lt_of_cell? w _ hx435_0)).trans hx435_0
        replace p435 := eq_true p435
        replace q435 := eq_true q435
        go_wp2
        go_meet
        case rel => exact ⟨_, (rd l0 (ji17)), (by first | rfl | (simp; done) | (simp only [← hji17] <;> (first | rfl | simp)) | (simp [*]; done)), H', ⟨by have := HJ2.out; have := HJ7.out; have := HK3.out; first | omega | exact Nat.le_refl _⟩, ⟨zr_ HO_7.out⟩, ⟨zw0_ HB⟩⟩
       case rest =>
        clear HC15
        try clear c1
        try clear p2
        try clear c4
        try clear p4
        try clear q4
        try clear hx4
        try clear c5
        try clear p6
        try clear c7
        try clear c9
        try clear c9b0
        try clear c9b1
        try clear c10
        try clear c10b0
        try clear c10b1
        try clear c11
        try clear c11b0
        try clear c11b1
        try clear c13
        try clear c14
        try clear c14b0
        try clear c16
        try clear c16b0
        try clear c18
        try clear c18b0
        try clear c19
        try clear c19b0
        try clear hx435_0
        try clear p2
        try clear p435
        try clear q435
        obtain ⟨kq, x9_14, rfl, HA, HJ14, HO_7, HB⟩ := hcut
        cases kq with
        | zero => exact absurd HA.out (by simp [carouselref5_Join.j3])
        | succ kj14 =>
         have H := HA.out
         clear HA
         simp only [carouselref5_Join.j3] at H
         have HC20 := Aside0.mk H
         clear H
         go_upto_if 48 with (fail)
         go_cut [10] (fun v10 wc => ∃ (kq : Nat) (x10_19 : Int), v10 = .int .i64 x10_19 ∧ Aside0 (carouselref5_Join.j4 kq l0 l1 x6_7 x7_3 x8_3 x9_14 x10_19 = some (r1, r2)) ∧ Aside0 (kq ≤ kj14) ∧ Aside0 (Kd.R (Kd.int .i64) 3 wc w.heap.size (fun _ => True) v432 x7_3) ∧ Aside0 (Below w.heap.size w wc))
         case first =>
          have H := HC20.out
          clear HC20
          by_cases c21 : x8_3 ≤ (l1.length : Int)
          rotate_left
          ·rw [if_neg c21] at H
           have c21b0 : decide (x8_3 ≤ (l1.length : Int)) = false := decide_eq_false c21
           clear c21
           (first | rw [c21b0] | (simp only [i64_w, i32_w]; rw [c21b0]) | skip)
           have H' := Aside0.mk H
           clear H
           go_wp2
           go_meet
           case rel => exact ⟨_, (1), z1_, H', ⟨by have := HJ2.out; have := HJ7.out; have := HK3.out; have := HJ14.out; first | omega | exact Nat.le_refl _⟩, ⟨zr_ HO_7.out⟩, ⟨zw0_ HB⟩⟩
          rw [if_pos c21] at H
          have c21b0 : decide (x8_3 ≤ (l1.length : Int)) = true := decide_eq_true c21
          clear c21
          (first | rw [c21b0] | (simp only [i64_w, i32_w]; rw [c21b0]) | skip)
          obtain ⟨ji22, hji22⟩ : ∃ j_ : Int, (wrap64 ((l1.length : Int) - x8_3)) = j_ := ⟨_, rfl⟩
          replace H : (if 0 ≤ (ji22) then (if (ji22) < (l1.length : Int) then (carouselref5_Join.j4 kj14 l0 l1 x6_7 x7_3 x8_3 x9_14 (rd l1 (ji22))) else (none)) else (none)) = some (r1, r2) := by first | (rw [hji22] at H; exact H) | (simp only [hji22] at H ⊢; exact H)
          have hji22w : (IntKind.i64.wrap ((l1.length : Int) - x8_3)) = ji22 := (i64_w _).trans hji22
          by_cases c23 : 0 ≤ (ji22)
          rotate_left
          ·rw [if_neg c23] at H
           exact absurd H (by simp)
          rw [if_pos c23] at H
          have c23b0 : decide (0 ≤ (ji22)) = true := decide_eq_true c23
          clear c23
          by_cases c24 : (ji22) < (l1.length : Int)
          rotate_left
          ·rw [if_neg c24] at H
           exact absurd H (by simp)
          rw [if_pos c24] at H
          have c24b0 : decide ((ji22) < (l1.length : Int)) = true := decide_eq_true c24
          clear c24
          have H' := Aside0.mk H
          clear H
          have p436 : 0 ≤ ((ji22) : Int) := of_decide_eq_true (by first | (with_reducible assumption) | assumption)
          have q436 : (ji22) < (l1.length : Int) := of_decide_eq_true (by first | (with_reducible assumption) | assumption)
          obtain ⟨ad436, e436, hx436_0⟩ := Kd.at_int HR1.out (ji22) p436 q436
          cases e436
          replace hx436_0 := (HB.out.cell (World.block_lt_of_cell? w _ hx436_0)).trans hx436_0
          replace p436 := eq_true p436
          replace q436 := eq_true q436
          go_wp2
          go_meet
          case rel => exact ⟨_, (rd l1 (ji22)), (by first | rfl | (simp; done) | (simp only [← hji22] <;> (first | rfl | simp)) | (simp [*]; done)), H', ⟨by have := HJ2.out; have := HJ7.out; have := HK3.out; have := HJ14.out; first | omega | exact Nat.le_refl _⟩, ⟨zr_ HO_7.out⟩, ⟨zw0_ HB⟩⟩
         case rest =>
          clear HC20
          try clear c1
          try clear c2
          try clear p2
          try clear c4
          try clear p4
          try clear q4
          try clear hx4
          try clear c5
          try clear p6
          try clear c7
          try clear c9
          try clear c9b0
          try clear c9b1
          try clear c10
          try clear c10b0
          try clear c10b1
          try clear c11
          try clear c11b0
          try clear c11b1
          try clear c13
          try clear c14
          try clear c14b0
          try clear c16
          try clear c16b0
          try clear c18
          try clear c18b0
          try clear c19
          try clear c19b0
          try clear c21
          try clear c21b0
          try clear c23
          try clear c23b0
          try clear c24
          try clear c24b0
          try clear hx435_0
          try clear hx436_0
          try clear p2
          try clear p4
          try clear p435
          try clear p436
          try clear p6
          try clear q4
          try clear q435
          try clear q436
          obtain ⟨kq, x10_19, rfl, HA, HJ19, HO_7, HB⟩ := hcut
          cases kq with
          | zero => exact absurd HA.out (by simp [carouselref5_Join.j4])
          | succ kj19 =>
           have H := HA.out
           clear HA
           simp only [carouselref5_Join.j4] at H
           have HC25 := Aside0.mk H
           clear H
           go_upto_region 15 with (fail)
           go_cut [66] (fun v66 wc => ∃ (kq : Nat) (x66_24 : Bool), v66 = .bool x66_24 ∧ Aside0 (carouselref5_Join.j5 kq l0 l1 x6_7 x7_3 x8_3 x9_14 x10_19 x66_24 = some (r1, r2)) ∧ Aside0 (kq ≤ kj19) ∧ Aside0 (Kd.R (Kd.int .i64) 3 wc w.heap.size (fun _ => True) v432 x7_3) ∧ Aside0 (Below w.heap.size w wc))
           case first =>
            have H := HC25.out
            clear HC25
            by_cases c26 : x9_14 = x10_19
            ·rw [if_pos c26] at H
             have c26b0 : (x9_14 == x10_19) = true := beq_iff_eq.mpr c26
             have c26b1 : (x9_14 != x10_19) = false := bne_eq_false_iff_eq.mpr c26
             clear c26
             (first | rw [c26b0] | (simp only [i64_w, i32_w]; rw [c26b0]) | skip)
             have H' := Aside0.mk H
             clear H
             go_wp2
             go_meet
             case rel => exact ⟨_, (false), z1_, H', ⟨by have := HJ2.out; have := HJ7.out; have := HK3.out; have := HJ14.out; have := HJ19.out; first | omega | exact Nat.le_refl _⟩, ⟨zr_ HO_7.out⟩, ⟨zw0_ HB⟩⟩
            rw [if_neg c26] at H
            have c26b0 : (x9_14 == x10_19) = false := beq_eq_false_iff_ne.mpr c26
            have c26b1 : (x9_14 != x10_19) = true := bne_iff_ne.mpr c26
            (first | rw [c26b0] | (simp only [i64_w, i32_w]; rw [c26b0]) | skip)
            by_cases c27 : x9_14 = 1
            rotate_left
            ·rw [if_neg c27] at H
             have c27b0 : (x9_14 == 1) = false := beq_eq_false_iff_ne.mpr c27
             have c27b1 : (x9_14 != 1) = true := bne_iff_ne.mpr c27
             have H' := Aside0.mk H
             clear H
             go_wp2
             go_meet
             case rel => exact ⟨_, ((x10_19 != 1)), z1_, H', ⟨by have := HJ2.out; have := HJ7.out; have := HK3.out; have := HJ14.out; have := HJ19.out; first | omega | exact Nat.le_refl _⟩, ⟨zr_ HO_7.out⟩, ⟨zw0_ HB⟩⟩
            rw [if_pos c27] at H
            have c27b0 : (x9_14 == 1) = true := beq_iff_eq.mpr c27
            have c27b1 : (x9_14 != 1) = false := bne_eq_false_iff_eq.mpr c27
            clear c27
            have H' := Aside0.mk H
            clear H
            go_wp2
            go_meet
            case rel => exact ⟨_, (false), z1_, H', ⟨by have := HJ2.out; have := HJ7.out; have := HK3.out; have := HJ14.out; have := HJ19.out; first | omega | exact Nat.le_refl _⟩, ⟨zr_ HO_7.out⟩, ⟨zw0_ HB⟩⟩
           case rest =>
            clear HC25
            try clear c1
            try clear c2
            try clear p2
            try clear c4
            try clear p4
            try clear q4
            try clear hx4
            try clear c5
            try clear p6
            try clear c7
            try clear c9
            try clear c9b0
            try clear c9b1
            try clear c10
            try clear c10b0
            try clear c10b1
            try clear c11
            try clear c11b0
            try clear c11b1
            try clear c13
            try clear c14
            try clear c14b0
            try clear c16
            try clear c16b0
            try clear c18
            try clear c18b0
            try clear c19
            try clear c19b0
            try clear c21
            try clear c21b0
            try clear c23
            try clear c23b0
            try clear c24
            try clear c24b0
            try clear c26
            try clear c26b0
            try clear c26b1
            try clear c27
            try clear c27b0
            try clear c27b1
            try clear hx435_0
            try clear hx436_0
            try clear p2
            try clear p4
            try clear p435
            try clear p436
            try clear p6
            try clear q4
            try clear q435
            try clear q436
            obtain ⟨kq, x66_24, rfl, HA, HJ24, HO_7, HB⟩ := hcut
            cases kq with
            | zero => exact absurd HA.out (by simp [carouselref5_Join.j5])
            | succ kj24 =>
             have H := HA.out
             clear HA
             simp only [carouselref5_Join.j5] at H
             by_cases c28 : x66_24 = true
             ·subst c28
              have H1 : (some (([] : List Int), 4)) = some (r1, r2) := by rw [if_pos rfl] at H; exact H
              clear H
              have H := H1
              clear H1
              simp only [Option.some.injEq, Prod.mk.injEq] at H
              obtain ⟨rfl, rfl⟩ := H
              go_wp2
              go_ret2
              exact ⟨_, z0_, z2_, zw0_ HB⟩
             replace c28 := Bool.eq_false_iff.mpr c28
             subst c28
             have H1 := H
             rw [if_neg (show ¬ (false = true) by decide)] at H1
             clear H
             have H := H1
             clear H1
             by_cases c29 : x10_19 > x9_14
             ·rw [if_pos c29] at H
              have c29b0 : decide (x9_14 < x10_19) = true := decide_eq_true c29
              clear c29
              obtain ⟨ji30, hji30⟩ : ∃ j_ : Int, (wrap64 (x6_7 - x8_3)) = j_ := ⟨_, rfl⟩
              replace H : (if 0 ≤ (ji30) then (if (ji30) < (x7_3.length : Int) then (carouselref5_Join.l0 kj24 l0 l1 x6_7 (x7_3.set ((ji30) : Int).toNat x10_19) (wrap64 (x8_3 + 1))) else (none)) else (none)) = some (r1, r2) := by first | (rw [hji30] at H; exact H) | (simp only [hji30] at H ⊢; exact H)
              have hji30w : (IntKind.i64.wrap (x6_7 - x8_3)) = ji30 := (i64_w _).trans hji30
              by_cases c31 : 0 ≤ (ji30)
              rotate_left
              ·rw [if_neg c31] at H
               exact absurd H (by simp)
              rw [if_pos c31] at H
              have c31b0 : decide (0 ≤ (ji30)) = true := decide_eq_true c31
              clear c31
              by_cases c32 : (ji30) < (x7_3.length : Int)
              rotate_left
              ·rw [if_neg c32] at H
               exact absurd H (by simp)
              rw [if_pos c32] at H
              have c32b0 : decide ((ji30) < (x7_3.length : Int)) = true := decide_eq_true c32
              clear c32
              obtain ⟨y437, hy437⟩ : ∃ y_ : List Int, y_ = (x7_3.set ((ji30) : Int).toNat x10_19) := ⟨_, rfl⟩
              replace H : (carouselref5_Join.l0 kj24 l0 l1 x6_7 y437 (wrap64 (x8_3 + 1))) = some (r1, r2) := by first | (rw [hy437]; with_reducible exact H) | (have H2_ := (Option.bind_some _ _).symm.trans H; rw [hy437]; with_reducible exact H2_) | (have H2_ := (Option.bind_some _ _).symm.trans H; with_reducible exact H2_) | with_reducible exact H | (rw [hy437]; exact H) | exact H
              have Ny437 := Aside0.mk hy437
              clear hy437
              have H' := Aside0.mk H
              clear H
              have p33 : 0 ≤ ((ji30) : Int) := of_decide_eq_true (by first | (with_reducible assumption) | assumption)
              have q33 : ((ji30) : Int) < ((x7_3.length : Int) : Int) := of_decide_eq_true (by first | (with_reducible assumption) | assumption)
              obtain ⟨go33, co33, eo33, gb33, gl33, cl33, HG33⟩ := Kd.R_form HO_7.out (by omega)
              (first | cases eo33 | (injection eo33 with ea_ en_ ec_; (first | subst ea_ | (injection ea_ with ea_; subst ea_)); subst ec_; clear en_))
              have GB33 := Aside0.mk gb33
              have GG33 := Aside0.mk HG33
              clear gb33 gl33 HG33
              obtain ⟨hx33_0, hf33_0⟩ := Kd.R_celln 0 HO_7.out ((ji30) : Int) p33 q33
              replace p33 := eq_true p33
              replace q33 := eq_true q33
              have HP34 := Kd.R_putg HO_7.out ((ji30) : Int) x10_19
              go_wp2_with (first | ((with_reducible refine gate_store (t := 3) (p := 76) rfl ?_); refine store_event (t := 3) (p := 76) (v := ?vo_w35) (w1 := (wc.setCell ⟨go33, ((ji30) : Int).toNat, none⟩ (.int .i64 x10_19))) ?hg ?ho ?hn ?hr ?_; (case ho => rfl); (case hg => rfl); (case hn => rfl); (case hr => first | (go_simp; done) | (go_simp; rfl)); intro w35 hw; have hg : wc.grownBy w35 (some go33) := (by rw [hw]; exact HP34.2); have hp_ : Kd.R (Kd.int .i64) 3 w35 w.heap.size (fun _ => True) (.slice (some ⟨go33, 0, none⟩) x7_3.length co33) y437 := (by rw [hw, Ny437.out]; exact HP34.1); clear HP34; replace HO_7 := Aside0.mk (hp_); replace HB := Aside0.mk ((by rw [hw]; exact below_set (HB.out) GB33.out : Below w.heap.size w w35)); clear hg hw hp_))
              go_roundg kj24
              case measure => have := HJ2.out; have := HJ7.out; have := HK3.out; have := HJ14.out; have := HJ19.out; have := HJ24.out; omega
              case rel => exact ⟨(y437), (wrap64 (x8_3 + 1)), z1_, H', ⟨by have := HJ2.out; have := HJ7.out; have := HK3.out; have := HJ14.out; have := HJ19.out; have := HJ24.out; omega⟩, ⟨zr_ HO_7.out⟩, ⟨zw0_ HB⟩⟩
             rw [if_neg c29] at H
             have c29b0 : decide (x9_14 < x10_19) = false := decide_eq_false c29
             clear c29
             obtain ⟨ji36, hji36⟩ : ∃ j_ : Int, (wrap64 (x6_7 - x8_3)) = j_ := ⟨_, rfl⟩
             replace H : (if 0 ≤ (ji36) then (if (ji36) < (x7_3.length : Int) then (carouselref5_Join.l0 kj24 l0 l1 x6_7 (x7_3.set ((ji36) : Int).toNat x9_14) (wrap64 (x8_3 + 1))) else (none)) else (none)) = some (r1, r2) := by first | (rw [hji36] at H; exact H) | (simp only [hji36] at H ⊢; exact H)
             have hji36w : (IntKind.i64.wrap (x6_7 - x8_3)) = ji36 := (i64_w _).trans hji36
             by_cases c37 : 0 ≤ (ji36)
             rotate_left
             ·rw [if_neg c37] at H
              exact absurd H (by simp)
             rw [if_pos c37] at H
             have c37b0 : decide (0 ≤ (ji36)) = true := decide_eq_true c37
             clear c37
             by_cases c38 : (ji36) < (x7_3.length : Int)
             rotate_left
             ·rw [if_neg c38] at H
              exact absurd H (by simp)
             rw [if_pos c38] at H
             have c38b0 : decide ((ji36) < (x7_3.length : Int)) = true := decide_eq_true c38
             clear c38
             obtain ⟨y438, hy438⟩ : ∃ y_ : List Int, y_ = (x7_3.set ((ji36) : Int).toNat x9_14) := ⟨_, rfl⟩
             replace H : (carouselref5_Join.l0 kj24 l0 l1 x6_7 y438 (wrap64 (x8_3 + 1))) = some (r1, r2) := by first | (rw [hy438]; with_reducible exact H) | (have H2_ := (Option.bind_some _ _).symm.trans H; rw [hy438]; with_reducible exact H2_) | (have H2_ := (Option.bind_some _ _).symm.trans H; with_reducible exact H2_) | with_reducible exact H | (rw [hy438]; exact H) | exact H
             have Ny438 := Aside0.mk hy438
             clear hy438
             have H' := Aside0.mk H
             clear H
             have p39 : 0 ≤ ((ji36) : Int) := of_decide_eq_true (by first | (with_reducible assumption) | assumption)
             have q39 : ((ji36) : Int) < ((x7_3.length : Int) : Int) := of_decide_eq_true (by first | (with_reducible assumption) | assumption)
             obtain ⟨go39, co39, eo39, gb39, gl39, cl39, HG39⟩ := Kd.R_form HO_7.out (by omega)
             (first | cases eo39 | (injection eo39 with ea_ en_ ec_; (first | subst ea_ | (injection ea_ with ea_; subst ea_)); subst ec_; clear en_))
             have GB39 := Aside0.mk gb39
             have GG39 := Aside0.mk HG39
             clear gb39 gl39 HG39
             obtain ⟨hx39_0, hf39_0⟩ := Kd.R_celln 0 HO_7.out ((ji36) : Int) p39 q39
             replace p39 := eq_true p39
             replace q39 := eq_true q39
             have HP40 := Kd.R_putg HO_7.out ((ji36) : Int) x9_14
             go_wp2_with (first | ((with_reducible refine gate_store (t := 3) (p := 76) rfl ?_); refine store_event (t := 3) (p := 76) (v := ?vo_w41) (w1 := (wc.setCell ⟨go39, ((ji36) : Int).toNat, none⟩ (.int .i64 x9_14))) ?hg ?ho ?hn ?hr ?_; (case ho => rfl); (case hg => rfl); (case hn => rfl); (case hr => first | (go_simp; done) | (go_simp; rfl)); intro w41 hw; have hg : wc.grownBy w41 (some go39) := (by rw [hw]; exact HP40.2); have hp_ : Kd.R (Kd.int .i64) 3 w41 w.heap.size (fun _ => True) (.slice (some ⟨go39, 0, none⟩) x7_3.length co39) y438 := (by rw [hw, Ny438.out]; exact HP40.1); clear HP40; replace HO_7 := Aside0.mk (hp_); replace HB := Aside0.mk ((by rw [hw]; exact below_set (HB.out) GB39.out : Below w.heap.size w w41)); clear hg hw hp_))
             go_roundg kj24
             case measure => have := HJ2.out; have := HJ7.out; have := HK3.out; have := HJ14.out; have := HJ19.out; have := HJ24.out; omega
             case rel => exact ⟨(y438), (wrap64 (x8_3 + 1)), z1_, H', ⟨by have := HJ2.out; have := HJ7.out; have := HK3.out; have := HJ14.out; have := HJ19.out; have := HJ24.out; omega⟩, ⟨zr_ HO_7.out⟩, ⟨zw0_ HB⟩⟩

end Go.Proofs.Ytbdhabpplidgfaa.PTensTurns
