/- The functions that the law TensTurns reaches, as Lean functions, and that each call of the Go function does what its Lean function says, wherever that one answers. Written by a program of mine over the print of the kit; Lean checks it. -/
import Derived.Test.YtbdhabpplidgfaaPTensTurnsx0
import Derived.Test.YtbdhabpplidgfaaPTensTurnsx11
import Derived.Test.YtbdhabpplidgfaaPTensTurnsx15
namespace Go.Proofs.Ytbdhabpplidgfaa.PTensTurns
open Go.RowKit Go.Proofs.YtbdhabpplidgfaaW.PrintWords Go.Proofs.YtbdhabpplidgfaaW.PrintLast Go.Proofs.YtbdhabpplidgfaaW.PrintMore
attribute [local go_sem] max2_int min2_int max_two min_two max_three min_three max_four min_four   -- for this text's walks alone
set_option linter.unusedVariables false
set_option linter.unusedSimpArgs false

/-! ### carouselref5_Turn: function 31 -/
mutual
def carouselref5_Turn.j0 : Nat → List Int → Bool → List Int → List Int → Option (List Int × List Int × Int)
 | 0, _, _, _, _ => none
 | k + 1, x1, x27, x397000, x397001 => if x27 = true then (some (([] : List Int), ([] : List Int), 1)) else (carouselref5_Turn.l0 k x1 ([] : List Int) 0 x397000 x397001)
def carouselref5_Turn.l0 : Nat → List Int → List Int → Int → List Int → List Int → Option (List Int × List Int × Int)
 | 0, _, _, _, _, _ => none
 | k + 1, x1, x6, x7, x397000, x397001 => if x7 < (x1.length : Int) then (if 0 ≤ x7 then (if (rd x1 x7) < 0 then (carouselref5_Turn.j2 k x1 x6 x7 true x397000 x397001) else (carouselref5_Turn.j2 k x1 x6 x7 (decide ((rd x1 x7) ≥ (x1.length : Int))) x397000 x397001)) else (none)) else ((carouselref5_New.f k x6 0).bind fun bt408 => (carouselref5_Turn.l2 k x1 x6 0 x397000 x397001 bt408.1 bt408.2))
def carouselref5_Turn.j2 : Nat → List Int → List Int → Int → Bool → List Int → List Int → Option (List Int × List Int × Int)
 | 0, _, _, _, _, _, _ => none
 | k + 1, x1, x6, x7, x48, x397000, x397001 => if x48 = true then (some (([] : List Int), ([] : List Int), 1)) else (carouselref5_Turn.l1 k x1 x6 x7 0 x397000 x397001)
def carouselref5_Turn.l1 : Nat → List Int → List Int → Int → Int → List Int → List Int → Option (List Int × List Int × Int)
 | 0, _, _, _, _, _, _ => none
 | k + 1, x1, x6, x7, x8, x397000, x397001 => if x8 < x7 then (if 0 ≤ x8 then (if x8 < (x1.length : Int) then (if 0 ≤ x7 then (if x7 < (x1.length : Int) then (if (rd x1 x8) = (rd x1 x7) then (some (([] : List Int), ([] : List Int), 1)) else (carouselref5_Turn.l1 k x1 x6 x7 (wrap64 (x8 + 1)) x397000 x397001)) else (none)) else (none)) else (none)) else (none)) else (if 0 ≤ x7 then (if x7 < (x1.length : Int) then (if 0 ≤ (rd x1 x7) then (if (rd x1 x7) < (x397000.length : Int) then (if x6.length < 17592186044416 then (carouselref5_Turn.l0 k x1 (x6 ++ [rd x397000 (rd x1 x7)]) (wrap64 (x7 + 1)) x397000 x397001) else (none)) else (none)) else (none)) else (none)) else (none))
def carouselref5_Turn.l2 : Nat → List Int → List Int → Int → List Int → List Int → List Int → List Int → Option (List Int × List Int × Int)
 | 0, _, _, _, _, _, _, _ => none
 | k + 1, x1, x6, x10, x397000, x397001, x415000, x415001 => if x10 < (x415001.length : Int) then ((carouselref5_Place.f k x6 x10).bind fun bt415 => (if 0 ≤ (bt415.1.length : Int) then (if ((bt415.1.length : Int) : Int).toNat ≤ 35184372088832 then (carouselref5_Turn.l3 k x1 x6 x10 bt415.1 (List.replicate ((bt415.1.length : Int) : Int).toNat 0) 0 x397000 x397001 x415000 x415001) else (none)) else (none))) else (some (x415000, x415001, 0))
def carouselref5_Turn.l3 : Nat → List Int → List Int → Int → List Int → List Int → Int → List Int → List Int → List Int → List Int → Option (List Int × List Int × Int)
 | 0, _, _, _, _, _, _, _, _, _, _ => none
 | k + 1, x1, x6, x10, x11, x13, x14, x397000, x397001, x415000, x415001 => if x14 < (x11.length : Int) then (if 0 ≤ x14 then (if x14 < (x1.length : Int) then (if 0 ≤ (rd x1 x14) then (if (rd x1 x14) < (x13.length : Int) then (carouselref5_Turn.l3 k x1 x6 x10 x11 (x13.set ((rd x1 x14) : Int).toNat (rd x11 x14)) (wrap64 (x14 + 1)) x397000 x397001 x415000 x415001) else (none)) else (none)) else (none)) else (none)) else ((carouselref5_At.f k x397000 x13).bind fun bt425 => (if 0 ≤ bt425.1 then (if bt425.1 < (x397001.length : Int) then (if 0 ≤ x10 then (if x10 < (x415001.length : Int) then (carouselref5_Turn.l2 k x1 x6 (wrap64 (x10 + 1)) x397000 x397001 x415000 (x415001.set (x10 : Int).toNat (rd x397001 bt425.1))) else (none)) else (none)) else (none)) else (none)))
end
def carouselref5_Turn.f (k : Nat) (l0_0 : List Int) (l0_1 : List Int) (l1 : List Int) : Option (List Int × List Int × Int) := (carouselref5_Is.f k l0_0 l0_1).bind fun t398 => (if t398 = true then (carouselref5_Turn.j0 k l1 ((l1.length : Int) != (l0_0.length : Int)) l0_0 l0_1) else (carouselref5_Turn.j0 k l1 true l0_0 l0_1))
theorem carouselref5_Turn.mono_l : ∀ k, (∀ y0 y1 y2 y3, LeO (carouselref5_Turn.j0 k y0 y1 y2 y3) (carouselref5_Turn.j0 (k + 1) y0 y1 y2 y3)) ∧ (∀ y0 y1 y2 y3 y4, LeO (carouselref5_Turn.l0 k y0 y1 y2 y3 y4) (carouselref5_Turn.l0 (k + 1) y0 y1 y2 y3 y4)) ∧ (∀ y0 y1 y2 y3 y4 y5, LeO (carouselref5_Turn.j2 k y0 y1 y2 y3 y4 y5) (carouselref5_Turn.j2 (k + 1) y0 y1 y2 y3 y4 y5)) ∧ (∀ y0 y1 y2 y3 y4 y5, LeO (carouselref5_Turn.l1 k y0 y1 y2 y3 y4 y5) (carouselref5_Turn.l1 (k + 1) y0 y1 y2 y3 y4 y5)) ∧ (∀ y0 y1 y2 y3 y4 y5 y6, LeO (carouselref5_Turn.l2 k y0 y1 y2 y3 y4 y5 y6) (carouselref5_Turn.l2 (k + 1) y0 y1 y2 y3 y4 y5 y6)) ∧ (∀ y0 y1 y2 y3 y4 y5 y6 y7 y8 y9, LeO (carouselref5_Turn.l3 k y0 y1 y2 y3 y4 y5 y6 y7 y8 y9) (carouselref5_Turn.l3 (k + 1) y0 y1 y2 y3 y4 y5 y6 y7 y8 y9))
 | 0 => ⟨fun _ _ _ _ r h => by simp [carouselref5_Turn.j0] at h, fun _ _ _ _ _ r h => by simp [carouselref5_Turn.l0] at h, fun _ _ _ _ _ _ r h => by simp [carouselref5_Turn.j2] at h, fun _ _ _ _ _ _ r h => by simp [carouselref5_Turn.l1] at h, fun _ _ _ _ _ _ _ r h => by simp [carouselref5_Turn.l2] at h, fun _ _ _ _ _ _ _ _ _ _ r h => by simp [carouselref5_Turn.l3] at h⟩
 | k + 1 => by
  obtain ⟨ih0, ih1, ih2, ih3, ih4, ih5⟩ := carouselref5_Turn.mono_l k
  refine ⟨?_, ?_, ?_, ?_, ?_, ?_⟩
  ·intro y0 y1 y2 y3
   unfold carouselref5_Turn.j0
   repeat' first
   | (with_reducible exact ih0 _ _ _ _)
   | (with_reducible exact ih1 _ _ _ _ _)
   | (with_reducible exact ih2 _ _ _ _ _ _)
   | (with_reducible exact ih3 _ _ _ _ _ _)
   | (with_reducible exact ih4 _ _ _ _ _ _ _)
   | (with_reducible exact ih5 _ _ _ _ _ _ _ _ _ _)
   | (with_reducible exact LeO.refl _)
   | (with_reducible exact LeO.none _)
   | (with_reducible refine LeO.ite ?_ ?_)
   | (with_reducible refine LeO.bind ?_ (fun _ => ?_))
   | exact ih0 _ _ _ _
   | exact ih1 _ _ _ _ _
   | exact ih2 _ _ _ _ _ _
   | exact ih3 _ _ _ _ _ _
   | exact ih4 _ _ _ _ _ _ _
   | exact ih5 _ _ _ _ _ _ _ _ _ _
   | exact LeO.none _
   | refine LeO.ite ?_ ?_
   | refine LeO.bind ?_ (fun _ => ?_)
  ·intro y0 y1 y2 y3 y4
   unfold carouselref5_Turn.l0
   repeat' first
   | (with_reducible exact ih0 _ _ _ _)
   | (with_reducible exact ih1 _ _ _ _ _)
   | (with_reducible exact ih2 _ _ _ _ _ _)
   | (with_reducible exact ih3 _ _ _ _ _ _)
   | (with_reducible exact ih4 _ _ _ _ _ _ _)
   | (with_reducible exact ih5 _ _ _ _ _ _ _ _ _ _)
   | (with_reducible exact carouselref5_New.mono _ _ _)
   | (with_reducible exact LeO.refl _)
   | (with_reducible exact LeO.none _)
   | (with_reducible refine LeO.ite ?_ ?_)
   | (with_reducible refine LeO.bind ?_ (fun _ => ?_))
   | exact ih0 _ _ _ _
   | exact ih1 _ _ _ _ _
   | exact ih2 _ _ _ _ _ _
   | exact ih3 _ _ _ _ _ _
   | exact ih4 _ _ _ _ _ _ _
   | exact ih5 _ _ _ _ _ _ _ _ _ _
   | exact carouselref5_New.mono _ _ _
   | exact LeO.none _
   | refine LeO.ite ?_ ?_
   | refine LeO.bind ?_ (fun _ => ?_)
  ·intro y0 y1 y2 y3 y4 y5
   unfold carouselref5_Turn.j2
   repeat' first
   | (with_reducible exact ih0 _ _ _ _)
   | (with_reducible exact ih1 _ _ _ _ _)
   | (with_reducible exact ih2 _ _ _ _ _ _)
   | (with_reducible exact ih3 _ _ _ _ _ _)
   | (with_reducible exact ih4 _ _ _ _ _ _ _)
   | (with_reducible exact ih5 _ _ _ _ _ _ _ _ _ _)
   | (with_reducible exact LeO.refl _)
   | (with_reducible exact LeO.none _)
   | (with_reducible refine LeO.ite ?_ ?_)
   | (with_reducible refine LeO.bind ?_ (fun _ => ?_))
   | exact ih0 _ _ _ _
   | exact ih1 _ _ _ _ _
   | exact ih2 _ _ _ _ _ _
   | exact ih3 _ _ _ _ _ _
   | exact ih4 _ _ _ _ _ _ _
   | exact ih5 _ _ _ _ _ _ _ _ _ _
   | exact LeO.none _
   | refine LeO.ite ?_ ?_
   | refine LeO.bind ?_ (fun _ => ?_)
  ·intro y0 y1 y2 y3 y4 y5
   unfold carouselref5_Turn.l1
   repeat' first
   | (with_reducible exact ih0 _ _ _ _)
   | (with_reducible exact ih1 _ _ _ _ _)
   | (with_reducible exact ih2 _ _ _ _ _ _)
   | (with_reducible exact ih3 _ _ _ _ _ _)
   | (with_reducible exact ih4 _ _ _ _ _ _ _)
   | (with_reducible exact ih5 _ _ _ _ _ _ _ _ _ _)
   | (with_reducible exact LeO.refl _)
   | (with_reducible exact LeO.none _)
   | (with_reducible refine LeO.ite ?_ ?_)
   | (with_reducible refine LeO.bind ?_ (fun _ => ?_))
   | exact ih0 _ _ _ _
   | exact ih1 _ _ _ _ _
   | exact ih2 _ _ _ _ _ _
   | exact ih3 _ _ _ _ _ _
   | exact ih4 _ _ _ _ _ _ _
   | exact ih5 _ _ _ _ _ _ _ _ _ _
   | exact LeO.none _
   | refine LeO.ite ?_ ?_
   | refine LeO.bind ?_ (fun _ => ?_)
  ·intro y0 y1 y2 y3 y4 y5 y6
   unfold carouselref5_Turn.l2
   repeat' first
   | (with_reducible exact ih0 _ _ _ _)
   | (with_reducible exact ih1 _ _ _ _ _)
   | (with_reducible exact ih2 _ _ _ _ _ _)
   | (with_reducible exact ih3 _ _ _ _ _ _)
   | (with_reducible exact ih4 _ _ _ _ _ _ _)
   | (with_reducible exact ih5 _ _ _ _ _ _ _ _ _ _)
   | (with_reducible exact carouselref5_Place.mono _ _ _)
   | (with_reducible exact LeO.refl _)
   | (with_reducible exact LeO.none _)
   | (with_reducible refine LeO.ite ?_ ?_)
   | (with_reducible refine LeO.bind ?_ (fun _ => ?_))
   | exact ih0 _ _ _ _
   | exact ih1 _ _ _ _ _
   | exact ih2 _ _ _ _ _ _
   | exact ih3 _ _ _ _ _ _
   | exact ih4 _ _ _ _ _ _ _
   | exact ih5 _ _ _ _ _ _ _ _ _ _
   | exact carouselref5_Place.mono _ _ _
   | exact LeO.none _
   | refine LeO.ite ?_ ?_
   | refine LeO.bind ?_ (fun _ => ?_)
  ·intro y0 y1 y2 y3 y4 y5 y6 y7 y8 y9
   unfold carouselref5_Turn.l3
   repeat' first
   | (with_reducible exact ih0 _ _ _ _)
   | (with_reducible exact ih1 _ _ _ _ _)
   | (with_reducible exact ih2 _ _ _ _ _ _)
   | (with_reducible exact ih3 _ _ _ _ _ _)
   | (with_reducible exact ih4 _ _ _ _ _ _ _)
   | (with_reducible exact ih5 _ _ _ _ _ _ _ _ _ _)
   | (with_reducible exact carouselref5_At.mono _ _ _)
   | (with_reducible exact LeO.refl _)
   | (with_reducible exact LeO.none _)
   | (with_reducible refine LeO.ite ?_ ?_)
   | (with_reducible refine LeO.bind ?_ (fun _ => ?_))
   | exact ih0 _ _ _ _
   | exact ih1 _ _ _ _ _
   | exact ih2 _ _ _ _ _ _
   | exact ih3 _ _ _ _ _ _
   | exact ih4 _ _ _ _ _ _ _
   | exact ih5 _ _ _ _ _ _ _ _ _ _
   | exact carouselref5_At.mono _ _ _
   | exact LeO.none _
   | refine LeO.ite ?_ ?_
   | refine LeO.bind ?_ (fun _ => ?_)
theorem carouselref5_Turn.mono : ∀ a0 a1 a2 k, LeO (carouselref5_Turn.f k a0 a1 a2) (carouselref5_Turn.f (k + 1) a0 a1 a2) := by
 intro a0 a1 a2 k
 obtain ⟨ih0, ih1, ih2, ih3, ih4, ih5⟩ := carouselref5_Turn.mono_l k
 unfold carouselref5_Turn.f
 repeat' first
   | (with_reducible exact ih0 _ _ _ _)
   | (with_reducible exact ih1 _ _ _ _ _)
   | (with_reducible exact ih2 _ _ _ _ _ _)
   | (with_reducible exact ih3 _ _ _ _ _ _)
   | (with_reducible exact ih4 _ _ _ _ _ _ _)
   | (with_reducible exact ih5 _ _ _ _ _ _ _ _ _ _)
   | (with_reducible exact carouselref5_Is.mono _ _ _)
   | (with_reducible exact LeO.refl _)
   | (with_reducible exact LeO.none _)
   | (with_reducible refine LeO.ite ?_ ?_)
   | (with_reducible refine LeO.bind ?_ (fun _ => ?_))
   | exact ih0 _ _ _ _
   | exact ih1 _ _ _ _ _
   | exact ih2 _ _ _ _ _ _
   | exact ih3 _ _ _ _ _ _
   | exact ih4 _ _ _ _ _ _ _
   | exact ih5 _ _ _ _ _ _ _ _ _ _
   | exact carouselref5_Is.mono _ _ _
   | exact LeO.none _
   | refine LeO.ite ?_ ?_
   | refine LeO.bind ?_ (fun _ => ?_)
def carouselref5_Turn.T12 : Bool × List (List Nat × List Nat) := (true, [([], []), ([], []), ([0, 1], [0, 1]), ([2], [2]), ([], []), ([], []), ([4, 5], [4, 5]), ([6], [6]), ([3, 7], [3, 7])])
def carouselref5_Turn.B12 : List Nat := [0, 0, 3, 7, 0, 0, 48, 112, 255]
theorem carouselref5_Turn.tab12 : rtab .any (opsOf Try.f31 12) = carouselref5_Turn.T12 := by kernel_rfl
theorem carouselref5_Turn.bits12 : waitsOk carouselref5_Turn.T12.2 carouselref5_Turn.B12 = true := by kernel_rfl
def carouselref5_Turn.T14 : Bool × List (List Nat × List Nat) := (true, [([], []), ([], []), ([1], [1]), ([], []), ([], []), ([3, 4], [3, 4]), ([5], [5]), ([2, 6], [2, 6]), ([7], [7]), ([8], [8]), ([0, 9], [0, 9]), ([10, 10, 0, 1, 2, 3, 4, 5, 6, 7, 8, 9, 10], [0, 10])])
def carouselref5_Turn.B14 : List Nat := [0, 0, 2, 0, 0, 24, 56, 126, 254, 510, 1023, 2047]
theorem carouselref5_Turn.tab14 : rtab .any (opsOf Try.f31 14) = carouselref5_Turn.T14 := by kernel_rfl
theorem carouselref5_Turn.bits14 : waitsOk carouselref5_Turn.T14.2 carouselref5_Turn.B14 = true := by kernel_rfl
def carouselref5_Turn.T24 : Bool × List (List Nat × List Nat) := (true, [([], []), ([], []), ([], []), ([1, 2], [1, 2]), ([3], [3]), ([], []), ([], []), ([5, 6], [5, 6]), ([7], [7]), ([0, 4, 0, 1, 2, 3, 4, 5, 6, 7, 8], [0, 4]), ([9, 8, 0, 1, 2, 3, 4, 5, 6, 7, 8], [8, 9])])
def carouselref5_Turn.B24 : List Nat := [0, 0, 0, 6, 14, 0, 0, 96, 224, 511, 1023]
theorem carouselref5_Turn.tab24 : rtab .any (opsOf Try.f31 24) = carouselref5_Turn.T24 := by kernel_rfl
theorem carouselref5_Turn.bits24 : waitsOk carouselref5_Turn.T24.2 carouselref5_Turn.B24 = true := by kernel_rfl
def carouselref5_Turn.T26 : Bool × List (List Nat × List Nat) := (true, [([], []), ([0], [0]), ([], []), ([], []), ([3], [3]), ([], []), ([4, 5], [4, 5]), ([6], [6]), ([1, 2, 0, 1, 2, 3, 4, 5, 6, 7], [1, 2]), ([8, 7, 0, 1, 2, 3, 4, 5, 6, 7], [7, 8])])
def carouselref5_Turn.B26 : List Nat := [0, 1, 0, 0, 8, 0, 56, 120, 255, 511]
theorem carouselref5_Turn.tab26 : rtab .any (opsOf Try.f31 26) = carouselref5_Turn.T26 := by kernel_rfl
theorem carouselref5_Turn.bits26 : waitsOk carouselref5_Turn.T26.2 carouselref5_Turn.B26 = true := by kernel_rfl
set_option maxHeartbeats 8000000 in
set_option maxRecDepth 100000 in
theorem carouselref5_Turn.calls (k : Nat) (A0_0 : Option Addr) (c0_0 : Nat) (l0_0 : List Int) (A0_1 : Option Addr) (c0_1 : Nat) (l0_1 : List Int) (A1 : Option Addr) (c1 : Nat) (l1 : List Int) (r1 : List Int) (r2 : List Int) (r3 : Int) (w : World) (hr0_0 : Kd.C (Kd.int .i64) w A0_0 l0_0.length l0_0) (hc0_0 : l0_0.length ≤ c0_0) (hr0_1 : Kd.C (Kd.int .i64) w A0_1 l0_1.length l0_1) (hc0_1 : l0_1.length ≤ c0_1) (hr1 : Kd.C (Kd.int .i64) w A1 l1.length l1) (hc1 : l1.length ≤ c1) (h : carouselref5_Turn.f k l0_0 l0_1 l1 = some (r1, r2, r3)) :
  Calls Try.prog 31 #[.agg #[.slice A0_0 l0_0.length c0_0, .slice A0_1 l0_1.length c0_1], .slice A1 l1.length c1] w fun e w' => ∃ v0_ v1_ : Value, e = .returned (.tuple #[.agg #[v0_, v1_], .int .i64 r3]) ∧ Kd.R (Kd.int .i64) 3 w' w.heap.size (fun _ => True) v0_ r1 ∧ Kd.R (Kd.int .i64) 23 w' w.heap.size (fun _ => True) v1_ r2 ∧ Below w.heap.size w w' := by
 have hu27 := Try.underlying27
 have HR0_0 := Aside0.mk hr0_0
 have HC0_0 := Aside0.mk hc0_0
 clear hr0_0 hc0_0
 have HR0_1 := Aside0.mk hr0_1
 have HC0_1 := Aside0.mk hc0_1
 clear hr0_1 hc0_1
 have HR1 := Aside0.mk hr1
 have HC1 := Aside0.mk hc1
 clear hr1 hc1
 have HB := Aside0.mk (Below.refl w.heap.size w)
 have H : ((carouselref5_Is.f k l0_0 l0_1).bind fun t398 => (if t398 = true then (carouselref5_Turn.j0 k l1 ((l1.length : Int) != (l0_0.length : Int)) l0_0 l0_1) else (carouselref5_Turn.j0 k l1 true l0_0 l0_1))) = some (r1, r2, r3) := h
 clear h
 have HC3 := Aside0.mk H
 clear H
 go_enter Try.func31, Try.ntmps31
 go_upto_region 1 with (first | ((with_reducible refine gate_dst (N := 2) rfl ?_); (try (refine gate_guard (by rfl) ?_; dsimp only)); refine box_event ?hg (N := 2) ?hd (cs := #[.slice A0_0 l0_0.length c0_0, .slice A0_1 l0_1.length c0_1]) (t := 27) ?hr ?_; (case hd => rfl); (case hg => rfl); (case hr => first | (go_simp; done) | (go_simp; rfl)); intro gb396 hg w4 hbox hb; have BK396 := Aside0.mk (hbox); have GW396 := Aside0.mk (zs_ hg (zw0_ HB)); have GE396 := Aside0.mk (zs_ hg (zw0_ HB)); replace HB := Aside0.mk (below_step (zw0_ HB) hb); clear hb hbox hg) | ((with_reducible refine gate_dst (N := 4) rfl ?_); (try (refine gate_guard (by rfl) ?_; dsimp only)); refine box_event ?hg (N := 4) ?hd (cs := #[.slice none 0 0, .slice none 0 0]) (t := 27) ?hr ?_; (case hd => rfl); (case hg => rfl); (case hr => first | (go_simp; done) | (go_simp; rfl)); intro gb397 hg w5 hbox hb; have BK397 := Aside0.mk (hbox); have GW397 := Aside0.mk (zs_ hg (zw1_ HB GE396)); have GE397 := Aside0.mk (zs_ hg (zw1_ HB GE396)); replace HB := Aside0.mk (below_step (zw1_ HB GE396) hb); have NB396_397 := Aside0.mk (zn_ hg BK396); have NB397_396 := Aside0.mk (zm_ hg BK396); replace BK396 := za_ BK396 hb; clear hb hbox hg))
 (try simp only [Act.put, List.setIfInBounds_toArray, List.set_cons_zero, List.set_cons_succ])
 go_cut [27] (fun v27 wc => ∃ (kq : Nat) (x27_2 : Bool), v27 = .bool x27_2 ∧ Aside0 (carouselref5_Turn.j0 kq l1 x27_2 l0_0 l0_1 = some (r1, r2, r3)) ∧ Aside0 (kq ≤ k) ∧ Aside0 (wc.heap[gb396]? = some (.cells #[(.slice A0_0 l0_0.length c0_0), (.slice A0_1 l0_1.length c0_1)] 27 (0, 0))) ∧ Aside0 (wc.heap[gb397]? = some (.cells #[(.slice none 0 0), (.slice none 0 0)] 27 (0, 0))) ∧ Aside0 (Below w.heap.size w wc))
 case first =>
  have H := HC3.out
  clear HC3
  replace H := Option.bind_eq_some_iff.mp H
  obtain ⟨t398, A60, H⟩ := H
  (try dsimp only at H)
  have A6 := Aside0.mk A60
  clear A60
  by_cases c7 : t398 = true
  ·subst c7
   have H1 : (carouselref5_Turn.j0 k l1 ((l1.length : Int) != (l0_0.length : Int)) l0_0 l0_1) = some (r1, r2, r3) := by rw [if_pos rfl] at H; exact H
   clear H
   have H := H1
   clear H1
   have H' := Aside0.mk H
   clear H
   have hnb8 := NB396_397.out
   have hnc8 := NB397_396.out
   have hcz9_0 := zx_ (v := .slice A0_0 l0_0.length c0_0) BK396 0
   have hcz9_1 := zx_ (v := .slice A0_1 l0_1.length c0_1) BK396 1
   have hfz9_0 := blk_frozen BK396.out 0
   have hfz9_1 := blk_frozen BK396.out 1
   go_wp2_with (first | ((with_reducible refine gate_callee (f := 18) rfl ?_); refine zg_ (some 18) Try.func18 #[.agg #[.slice A0_0 l0_0.length c0_0, .slice A0_1 l0_1.length c0_1]] (h := ?_); (with_reducible refine (carouselref5_Is.calls k _ _ l0_0 _ _ l0_1 true _ ?side1 ?side2 ?side3 ?side4 A6.out).mono ?_); (case side1 => exact zk_ (Kd.C_below HR0_0.out HB.out)); (case side2 => exact HC0_0.out); (case side3 => exact zk_ (Kd.C_below HR0_1.out HB.out)); (case side4 => exact HC0_1.out); rintro e w10 ⟨rfl, hb⟩; refine ⟨_, rfl, ?_⟩; replace BK396 := za_ BK396 hb; replace BK397 := za_ BK397 hb; replace HB := Aside0.mk (below_step (zw2_ HB GE396 GE397) hb); (try clear hb); have hcz11_0 := zx_ (v := .slice A0_0 l0_0.length c0_0) BK396 0; have hcz11_1 := zx_ (v := .slice A0_1 l0_1.length c0_1) BK396 1; have hfz11_0 := blk_frozen BK396.out 0; have hfz11_1 := blk_frozen BK396.out 1))
   go_meet
   case rel => exact ⟨_, (((l1.length : Int) != (l0_0.length : Int))), z1_, H', ⟨by first | omega | exact Nat.le_refl _⟩, ⟨zb_ BK396⟩, ⟨zb_ BK397⟩, ⟨zw2_ HB GE396 GE397⟩⟩
  replace c7 := Bool.eq_false_iff.mpr c7
  subst c7
  have H1 : (carouselref5_Turn.j0 k l1 true l0_0 l0_1) = some (r1, r2, r3) := by rw [if_neg (show ¬ (false = true) by decide)] at H; exact H
  clear H
  have H := H1
  clear H1
  have H' := Aside0.mk H
  clear H
  have hnb12 := NB396_397.out
  have hnc12 := NB397_396.out
  have hcz13_0 := zx_ (v := .slice A0_0 l0_0.length c0_0) BK396 0
  have hcz13_1 := zx_ (v := .slice A0_1 l0_1.length c0_1) BK396 1
  have hfz13_0 := blk_frozen BK396.out 0
  have hfz13_1 := blk_frozen BK396.out 1
  go_wp2_with (first | ((with_reducible refine gate_callee (f := 18) rfl ?_); refine zg_ (some 18) Try.func18 #[.agg #[.slice A0_0 l0_0.length c0_0, .slice A0_1 l0_1.length c0_1]] (h := ?_); (with_reducible refine (carouselref5_Is.calls k _ _ l0_0 _ _ l0_1 false _ ?side1 ?side2 ?side3 ?side4 A6.out).mono ?_); (case side1 => exact zk_ (Kd.C_below HR0_0.out HB.out)); (case side2 => exact HC0_0.out); (case side3 => exact zk_ (Kd.C_below HR0_1.out HB.out)); (case side4 => exact HC0_1.out); rintro e w14 ⟨rfl, hb⟩; refine ⟨_, rfl, ?_⟩; replace BK396 := za_ BK396 hb; replace BK397 := za_ BK397 hb; replace HB := Aside0.mk (below_step (zw2_ HB GE396 GE397) hb); (try clear hb)))
  go_meet
  case rel => exact ⟨_, (true), z1_, H', ⟨by first | omega | exact Nat.le_refl _⟩, ⟨zb_ BK396⟩, ⟨zb_ BK397⟩, ⟨zw2_ HB GE396 GE397⟩⟩
 case rest =>
  clear HC3
  try clear c1
  try clear p2
  try clear c3
  try clear c7
  try clear c8
  try clear c12
  try clear hcz11_0
  try clear hcz11_1
  try clear hcz13_0
  try clear hcz13_1
  try clear hcz9_0
  try clear hcz9_1
  try clear hfz11_0
  try clear hfz11_1
  try clear hfz13_0
  try clear hfz13_1
  try clear hfz9_0
  try clear hfz9_1
  obtain ⟨kq, x27_2, rfl, HA, HJ2, BK396, BK397, HB⟩ := hcut
  cases kq with
  | zero => exact absurd HA.out (by simp [carouselref5_Turn.j0])
  | succ kj2 =>
   have H := HA.out
   clear HA
   simp only [carouselref5_Turn.j0] at H
   by_cases c15 : x27_2 = true
   ·subst c15
    have H1 : (some (([] : List Int), ([] : List Int), 1)) = some (r1, r2, r3) := by rw [if_pos rfl] at H; exact H
    clear H
    have H := H1
    clear H1
    simp only [Option.some.injEq, Prod.mk.injEq] at H
    obtain ⟨rfl, rfl, rfl⟩ := H
    have hnb16 := NB397_396.out
    have hnc16 := NB396_397.out
    have hcz17_0 := zx_ (v := .slice none 0 0) BK397 0
    have hcz17_1 := zx_ (v := .slice none 0 0) BK397 1
    have hfz17_0 := blk_frozen BK397.out 0
    have hfz17_1 := blk_frozen BK397.out 1
    go_wp2
    refine bodyPost_ret (results_ct rfl _ _ gb397 27 #[.slice none 0 0, .slice none 0 0] (0, 0) _ rfl (zo2_ BK397) Try.underlying27 rfl (by kernel_rfl)) rfl ?_
    exact ⟨_, _, z0_, z2_, z2_, zw2_ HB GE396 GE397⟩
   replace c15 := Bool.eq_false_iff.mpr c15
   subst c15
   have H1 := H
   rw [if_neg (show ¬ (false = true) by decide)] at H1
   clear H
   have H := H1
   clear H1
   have H' := Aside0.mk H
   clear H
   go_wp2
   go_loopg [6, 7] kj2 (fun kq v6 v7 w' => ∃ (x6_2 : List Int) (x7_2 : Int), v7 = .int .i64 x7_2 ∧ Aside0 (carouselref5_Turn.l0 kq l1 x6_2 x7_2 l0_0 l0_1 = some (r1, r2, r3)) ∧ Aside0 (kq ≤ kj2) ∧ Aside0 (Kd.R (Kd.int .i64) 3 w' w.heap.size (fun _ => True) v6 x6_2) ∧ Aside0 (w'.heap[gb396]? = some (.cells #[(.slice A0_0 l0_0.length c0_0), (.slice A0_1 l0_1.length c0_1)] 27 (0, 0))) ∧ Aside0 (w'.heap[gb397]? = some (.cells #[(.slice none 0 0), (.slice none 0 0)] 27 (0, 0))) ∧ Aside0 (Below w.heap.size w w'))
   case atStart => exact ⟨(([] : List Int)), (0), z1_, H', ⟨Nat.le_refl _⟩, ⟨z2_⟩, ⟨zb_ BK396⟩, ⟨zb_ BK397⟩, ⟨zw2_ HB GE396 GE397⟩⟩
   case round =>
    clear H'
    try clear c1
    try clear p2
    try clear c3
    try clear c7
    try clear c8
    try clear c12
    try clear c15
    try clear c16
    try clear hcz11_0
    try clear hcz11_1
    try clear hcz13_0
    try clear hcz13_1
    try clear hcz17_0
    try clear hcz17_1
    try clear hcz9_0
    try clear hcz9_1
    try clear hfz11_0
    try clear hfz11_1
    try clear hfz13_0
    try clear hfz13_1
    try clear hfz17_0
    try clear hfz17_1
    try clear hfz9_0
    try clear hfz9_1
    try clear p2
    obtain ⟨x6_2, x7_2, rfl, HA, HK2, HO_6, BK396, BK397, HB⟩ := hrel
    cases gk with
    | zero => exact absurd HA.out (by simp [carouselref5_Turn.l0])
    | succ k2 =>
     have H := HA.out
     clear HA
     simp only [carouselref5_Turn.l0] at H
     by_cases c18 : x7_2 < (l1.length : Int)
     ·rw [if_pos c18] at H
      have c18b0 : decide (x7_2 < (l1.length : Int)) = true := decide_eq_true c18
      clear c18
      have HC19 := Aside0.mk H
      clear H
      go_upto_region 7 with (fail)
      go_cut [48] (fun v48 wc => ∃ (kq : Nat) (x48_18 : Bool), v48 = .bool x48_18 ∧ Aside0 (carouselref5_Turn.j2 kq l1 x6_2 x7_2 x48_18 l0_0 l0_1 = some (r1, r2, r3)) ∧ Aside0 (kq ≤ k2) ∧ Aside0 (Kd.R (Kd.int .i64) 3 wc w.heap.size (fun _ => True) u6 x6_2) ∧ Aside0 (wc.heap[gb396]? = some (.cells #[(.slice A0_0 l0_0.length c0_0), (.slice A0_1 l0_1.length c0_1)] 27 (0, 0))) ∧ Aside0 (wc.heap[gb397]? = some (.cells #[(.slice none 0 0), (.slice none 0 0)] 27 (0, 0))) ∧ Aside0 (Below w.heap.size w wc))
      case first =>
       have H := HC19.out
       clear HC19
       by_cases c20 : 0 ≤ x7_2
       rotate_left
       ·rw [if_neg c20] at H
        exact absurd H (by simp)
       rw [if_pos c20] at H
       have c20b0 : decide (0 ≤ x7_2) = true := decide_eq_true c20
       clear c20
       (first | rw [c20b0] | (simp only [i64_w, i32_w]; rw [c20b0]) | skip)
       by_cases c21 : (rd l1 x7_2) < 0
       ·rw [if_pos c21] at H
        have c21b0 : decide ((rd l1 x7_2) < 0) = true := decide_eq_true c21
        clear c21
        have H' := Aside0.mk H
        clear H
        have p399 : 0 ≤ (x7_2 : Int) := of_decide_eq_true (by first | (with_reducible assumption) | assumption)
        have q399 : x7_2 < (l1.length : Int) := of_decide_eq_true (by first | (with_reducible assumption) | assumption)
        obtain ⟨ad399, e399, hx399_0⟩ := Kd.at_int HR1.out x7_2 p399 q399
        cases e399
        replace hx399_0 := (HB.out.cell (World.block_lt_of_cell? w _ hx399_0)).trans hx399_0
        replace p399 := eq_true p399
        replace q399 := eq_true q399
        go_wp2
        go_meet
        case rel => exact ⟨_, (true), z1_, H', ⟨by have := HJ2.out; have := HK2.out; first | omega | exact Nat.le_refl _⟩, ⟨zr_ HO_6.out⟩, ⟨zb_ BK396⟩, ⟨zb_ BK397⟩, ⟨zw2_ HB GE396 GE397⟩⟩
       rw [if_neg c21] at H
       have c21b0 : decide ((rd l1 x7_2) < 0) = false := decide_eq_false c21
       clear c21
       have H' := Aside0.mk H
       clear H
       have p399 : 0 ≤ (x7_2 : Int) := of_decide_eq_true (by first | (with_reducible assumption) | assumption)
       have q399 : x7_2 < (l1.length : Int) := of_decide_eq_true (by first | (with_reducible assumption) | assumption)
       obtain ⟨ad399, e399, hx399_0⟩ := Kd.at_int HR1.out x7_2 p399 q399
       cases e399
       replace hx399_0 := (HB.out.cell (World.block_lt_of_cell? w _ hx399_0)).trans hx399_0
       replace p399 := eq_true p399
       replace q399 := eq_true q399
       have p400 : 0 ≤ (x7_2 : Int) := of_decide_eq_true (by first | (with_reducible assumption) | assumption)
       have q400 : x7_2 < (l1.length : Int) := of_decide_eq_true (by first | (with_reducible assumption) | assumption)
       obtain ⟨ad400, e400, hx400_0⟩ := Kd.at_int HR1.out x7_2 p400 q400
       obtain rfl : ad399 = ad400 := (by injection e400)
       replace hx400_0 := (HB.out.cell (World.block_lt_of_cell? w _ hx400_0)).trans hx400_0
       replace p400 := eq_true p400
       replace q400 := eq_true q400
       go_wp2
       go_meet
       case rel => exact ⟨_, (decide ((rd l1 x7_2) ≥ (l1.length : Int))), z1_, H', ⟨by have := HJ2.out; have := HK2.out; first | omega | exact Nat.le_refl _⟩, ⟨zr_ HO_6.out⟩, ⟨zb_ BK396⟩, ⟨zb_ BK397⟩, ⟨zw2_ HB GE396 GE397⟩⟩
      case rest =>
       clear HC19
       try clear c1
       try clear c2
       try clear p2
       try clear c3
       try clear p3
       try clear q3
       try clear hx3
       try clear p4
       try clear q4
       try clear hx4
       try clear c7
       try clear c8
       try clear c12
       try clear c15
       try clear c16
       try clear c18
       try clear c18b0
       try clear c20
       try clear c20b0
       try clear c21
       try clear c21b0
       try clear hcz11_0
       try clear hcz11_1
       try clear hcz13_0
       try clear hcz13_1
       try clear hcz17_0
       try clear hcz17_1
       try clear hcz9_0
       try clear hcz9_1
       try clear hfz11_0
       try clear hfz11_1
       try clear hfz13_0
       try clear hfz13_1
       try clear hfz17_0
       try clear hfz17_1
       try clear hfz9_0
       try clear hfz9_1
       try clear hx399_0
       try clear hx400_0
       try clear p2
       try clear p399
       try clear p400
       try clear q399
       try clear q400
       obtain ⟨kq, x48_18, rfl, HA, HJ18, HO_6, BK396, BK397, HB⟩ := hcut
       cases kq with
       | zero => exact absurd HA.out (by simp [carouselref5_Turn.j2])
       | succ kj18 =>
        have H := HA.out
        clear HA
        simp only [carouselref5_Turn.j2] at H
        by_cases c22 : x48_18 = true
        ·subst c22
         have H1 : (some (([] : List Int), ([] : List Int), 1)) = some (r1, r2, r3) := by rw [if_pos rfl] at H; exact H
         clear H
         have H := H1
         clear H1
         simp only [Option.some.injEq, Prod.mk.injEq] at H
         obtain ⟨rfl, rfl, rfl⟩ := H
         have hnb23 := NB397_396.out
         have hnc23 := NB396_397.out
         have hcz24_0 := zx_ (v := .slice none 0 0) BK397 0
         have hcz24_1 := zx_ (v := .slice none 0 0) BK397 1
         have hfz24_0 := blk_frozen BK397.out 0
         have hfz24_1 := blk_frozen BK397.out 1
         go_wp2
         refine bodyPost_ret (results_ct rfl _ _ gb397 27 #[.slice none 0 0, .slice none 0 0] (0, 0) _ rfl (zo2_ BK397) Try.underlying27 rfl (by kernel_rfl)) rfl ?_
         exact ⟨_, _, z0_, z2_, z2_, zw2_ HB GE396 GE397⟩
        replace c22 := Bool.eq_false_iff.mpr c22
        subst c22
        have H1 := H
        rw [if_neg (show ¬ (false = true) by decide)] at H1
        clear H
        have H := H1
        clear H1
        have H' := Aside0.mk H
        clear H
        go_wp2
        go_loopg [8] kj18 (fun kq v8 w' => ∃ (x8_4 : Int), v8 = .int .i64 x8_4 ∧ Aside0 (carouselref5_Turn.l1 kq l1 x6_2 x7_2 x8_4 l0_0 l0_1 = some (r1, r2, r3)) ∧ Aside0 (kq ≤ kj18) ∧ Aside0 (Kd.R (Kd.int .i64) 3 w' w.heap.size (fun _ => True) u6 x6_2) ∧ Aside0 (w'.heap[gb396]? = some (.cells #[(.slice A0_0 l0_0.length c0_0), (.slice A0_1 l0_1.length c0_1)] 27 (0, 0))) ∧ Aside0 (w'.heap[gb397]? = some (.cells #[(.slice none 0 0), (.slice none 0 0)] 27 (0, 0))) ∧ Aside0 (Below w.heap.size w w'))
        case atStart => exact ⟨(0), z1_, H', ⟨Nat.le_refl _⟩, ⟨zr_ HO_6.out⟩, ⟨zb_ BK396⟩, ⟨zb_ BK397⟩, ⟨zw2_ HB GE396 GE397⟩⟩
        case round =>
         clear H'
         try clear c1
         try clear c2
         try clear p2
         try clear c3
         try clear p3
         try clear q3
         try clear hx3
         try clear p4
         try clear q4
         try clear hx4
         try clear c7
         try clear c8
         try clear c12
         try clear c15
         try clear c16
         try clear c18
         try clear c18b0
         try clear c20
         try clear c20b0
         try clear c21
         try clear c21b0
         try clear c22
         try clear c23
         try clear hcz11_0
         try clear hcz11_1
         try clear hcz13_0
         try clear hcz13_1
         try clear hcz17_0
         try clear hcz17_1
         try clear hcz24_0
         try clear hcz24_1
         try clear hcz9_0
         try clear hcz9_1
         try clear hfz11_0
         try clear hfz11_1
         try clear hfz13_0
         try clear hfz13_1
         try clear hfz17_0
         try clear hfz17_1
         try clear hfz24_0
         try clear hfz24_1
         try clear hfz9_0
         try clear hfz9_1
         try clear hx399_0
         try clear hx400_0
         try clear p2
         try clear p3
         try clear p399
         try clear p4
         try clear p400
         try clear q3
         try clear q399
         try clear q4
         try clear q400
         obtain ⟨x8_4, rfl, HA, HK4, HO_6, BK396, BK397, HB⟩ := hrel
         cases gk with
         | zero => exact absurd HA.out (by simp [carouselref5_Turn.l1])
         | succ k4 =>
          have H := HA.out
          clear HA
          simp only [carouselref5_Turn.l1] at H
          by_cases c25 : x8_4 < x7_2
          rotate_left
          ·rw [if_neg c25] at H
           have c25b0 : decide (x8_4 < x7_2) = false := decide_eq_false c25
           clear c25
           by_cases c35 : 0 ≤ x7_2
           rotate_left
           ·rw [if_neg c35] at H
            exact absurd H (by simp)
           rw [if_pos c35] at H
           have c35b0 : decide (0 ≤ x7_2) = true := decide_eq_true c35
           clear c35
           by_cases c36 : x7_2 < (l1.length : Int)
           rotate_left
           ·rw [if_neg c36] at H
            exact absurd H (by simp)
           rw [if_pos c36] at H
           have c36b0 : decide (x7_2 < (l1.length : Int)) = true := decide_eq_true c36
           clear c36
           by_cases c37 : 0 ≤ (rd l1 x7_2)
           rotate_left
           ·rw [if_neg c37] at H
            exact absurd H (by simp)
           rw [if_pos c37] at H
           have c37b0 : decide (0 ≤ (rd l1 x7_2)) = true := decide_eq_true c37
           clear c37
           by_cases c38 : (rd l1 x7_2) < (l0_0.length : Int)
           rotate_left
           ·rw [if_neg c38] at H
            exact absurd H (by simp)
           rw [if_pos c38] at H
           have c38b0 : decide ((rd l1 x7_2) < (l0_0.length : Int)) = true := decide_eq_true c38
           clear c38
           by_cases c39 : x6_2.length < 17592186044416
           rotate_left
           ·rw [if_neg c39] at H
            exact absurd H (by simp)
           rw [if_pos c39] at H
           have LMc39 := Aside0.mk c39
           clear c39
           obtain ⟨y405, hy405⟩ : ∃ y_ : List Int, y_ = (x6_2 ++ [rd l0_0 (rd l1 x7_2)]) := ⟨_, rfl⟩
           replace H : (carouselref5_Turn.l0 k4 l1 y405 (wrap64 (x7_2 + 1)) l0_0 l0_1) = some (r1, r2, r3) := by first | (rw [hy405]; with_reducible exact H) | (have H2_ := (Option.bind_some _ _).symm.trans H; rw [hy405]; with_reducible exact H2_) | (have H2_ := (Option.bind_some _ _).symm.trans H; with_reducible exact H2_) | with_reducible exact H | (rw [hy405]; exact H) | exact H
           have Ny405 := Aside0.mk hy405
           clear hy405
           have H' := Aside0.mk H
           clear H
           try go_wp2
           replace HO_6 := Aside0.mk (Kd.R_drew HO_6.out)
           replace BK396 := Aside0.mk (blk_drew BK396.out)
           replace BK397 := Aside0.mk (blk_drew BK397.out)
           replace HB := Aside0.mk (below_drew1 HB.out)
           have p403 : 0 ≤ (x7_2 : Int) := of_decide_eq_true (by first | (with_reducible assumption) | assumption)
           have q403 : x7_2 < (l1.length : Int) := of_decide_eq_true (by first | (with_reducible assumption) | assumption)
           obtain ⟨ad403, e403, hx403_0⟩ := Kd.at_int HR1.out x7_2 p403 q403
           have hw403_0 := hx403_0
           cases e403
           replace hx403_0 := (HB.out.cell (World.block_lt_of_cell? w _ hx403_0)).trans hx403_0
           replace p403 := eq_true p403
           replace q403 := eq_true q403
           have p404 : 0 ≤ ((rd l1 x7_2) : Int) := of_decide_eq_true (by first | (with_reducible assumption) | assumption)
           have q404 : (rd l1 x7_2) < (l0_0.length : Int) := of_decide_eq_true (by first | (with_reducible assumption) | assumption)
           obtain ⟨ad404, e404, hx404_0⟩ := Kd.at_int HR0_0.out (rd l1 x7_2) p404 q404
           have hw404_0 := hx404_0
           cases e404
           replace hx404_0 := (HB.out.cell (World.block_lt_of_cell? w _ hx404_0)).trans hx404_0
           replace p404 := eq_true p404
           replace q404 := eq_true q404
           refine start_ (n := 12) (S := fun w' => w'.cell? ⟨gb396, 0, none⟩ = some (.slice (some ad404) l0_0.length c0_0) ∧ w'.cell? ⟨gb396, 1, none⟩ = some (.slice A0_1 l0_1.length c0_1) ∧ w'.cell? (ad403.add (x7_2).toNat) = some (.int .i64 (rd l1 x7_2)) ∧ w'.cell? (ad404.add ((rd l1 x7_2)).toNat) = some (.int .i64 (rd l0_0 (rd l1 x7_2)))) (ds := []) #[false, false, false, false, false, false, false, false, false, false, false, false] (by kernel_rfl) rfl rfl ⟨(blk_cell BK396.out 0).trans rfl, (blk_cell BK396.out 1).trans rfl, ((HB.out.cell (World.block_lt_of_cell? w _ hw403_0)).trans hw403_0), ((HB.out.cell (World.block_lt_of_cell? w _ hw404_0)).trans hw404_0)⟩ (fun hHeld => ?_); refine with_tabW carouselref5_Turn.tab14 carouselref5_Turn.bits14 (fun HT_ HW_ => ?_)
           generalize wr.drew = w40 at HO_6 BK396 BK397 HB hx403_0 hx404_0 hHeld ⊢
           refine yp_ ?_ 0 65
           refine yp_ ?_ 1 66
           refine yp_ ?_ 3 68
           refine yp_ ?_ 4 69
           refine yp_ ?_ 5 70
           refine yt4_ ?_ 2 67
           refine yt4_ ?_ 6 71
           refine yp_ ?_ 7 72
           refine yt4_ ?_ 8 73
           refine yo_ 9 (some 74) (fun K hK => ?_)
           refine value_ (w1 := ?_) (v := ?_) (by rfl) rfl ?_ ?_
           rotate_left 2
           ·go_simp
            constructor
            ·rfl
            rfl
           refine hK.out _ _ ⟨(blk_cell (blk_alloc BK396.out _) 0).trans rfl, (blk_cell (blk_alloc BK396.out _) 1).trans rfl, (World.cell?_alloc_lt _ _ _ (World.block_lt_of_cell? _ _ (((HB.out.cell (World.block_lt_of_cell? w _ hw403_0)).trans hw403_0)))).trans (((HB.out.cell (World.block_lt_of_cell? w _ hw403_0)).trans hw403_0)), (World.cell?_alloc_lt _ _ _ (World.block_lt_of_cell? _ _ (((HB.out.cell (World.block_lt_of_cell? w _ hw404_0)).trans hw404_0)))).trans (((HB.out.cell (World.block_lt_of_cell? w _ hw404_0)).trans hw404_0))⟩ (fun hHeld => ?_)
           clear hK K
           refine zq_ (some 74) (h := ?_)
           refine yo_ 10 (some 75) (fun K hK => ?_)
           refine Kd.R_append_step (Kd.int .i64) (w0 := w) w.heap.size (by rfl) (.tmp 65) (.tmp 74) 22 3 (.int .i64 0) 8 rfl Try.underlying22 info3 rfl (by decide) (by omega) u6 x6_2 (rd l0_0 (rd l1 x7_2)) [.int .i64 (rd l0_0 (rd l1 x7_2))] (fun _ => True) (fun _ => False) rfl rfl ?aP (fun _ hk => hk.elim) ?aF ?aO ?aB ?aS ?aL ?_
           (case aP => exact rfl)
           (case aB => exact (zw2_ HB GE396 GE397))
           (case aF => exact (fun _ _ => trivial))
           (case aO => exact (zr_ HO_6.out))
           (case aS => exact (below_size (zw2_ HB GE396 GE397)))
           (case aL => have := LMc39.out; omega)
           intro v406 w41 ho hb hg hat
           rw [← Ny405.out] at ho
           replace BK396 := Aside0.mk (zh_ BK396 hg (Kd.R_ne HO_6.out BK396.out (by decide)))
           replace BK397 := Aside0.mk (zh_ BK397 hg (Kd.R_ne HO_6.out BK397.out (by decide)))
           replace HB := Aside0.mk (hb)
           have HO407 := Aside0.mk (ho)
           clear HO_6
           clear ho hb hg hat
           refine hK.out _ _ ⟨(blk_cell BK396.out 0).trans rfl, (blk_cell BK396.out 1).trans rfl, ((HB.out.cell (World.block_lt_of_cell? w _ hw403_0)).trans hw403_0), ((HB.out.cell (World.block_lt_of_cell? w _ hw404_0)).trans hw404_0)⟩ (fun hHeld => ?_)
           clear hK K
           refine zq_ (some 75) (h := ?_)
           refine yp_ ?_ 11 6
           refine done_ (done_of HT_.out (by kernel_rfl)) ?_
           try go_wp2
           go_roundg k4
           case measure => have := HJ2.out; have := HK2.out; have := HJ18.out; have := HK4.out; omega
           case rel => exact ⟨(y405), (wrap64 (x7_2 + 1)), z1_, H', ⟨by have := HJ2.out; have := HK2.out; have := HJ18.out; have := HK4.out; omega⟩, ⟨zr_ HO407.out⟩, ⟨zb_ BK396⟩, ⟨zb_ BK397⟩, ⟨zw2_ HB GE396 GE397⟩⟩
          rw [if_pos c25] at H
          have c25b0 : decide (x8_4 < x7_2) = true := decide_eq_true c25
          clear c25
          by_cases c26 : 0 ≤ x8_4
          rotate_left
          ·rw [if_neg c26] at H
           exact absurd H (by simp)
          rw [if_pos c26] at H
          have c26b0 : decide (0 ≤ x8_4) = true := decide_eq_true c26
          clear c26
          by_cases c27 : x8_4 < (l1.length : Int)
          rotate_left
          ·rw [if_neg c27] at H
           exact absurd H (by simp)
          rw [if_pos c27] at H
          have c27b0 : decide (x8_4 < (l1.length : Int)) = true := decide_eq_true c27
          clear c27
          by_cases c28 : 0 ≤ x7_2
          rotate_left
          ·rw [if_neg c28] at H
           exact absurd H (by simp)
          rw [if_pos c28] at H
          have c28b0 : decide (0 ≤ x7_2) = true := decide_eq_true c28
          clear c28
          by_cases c29 : x7_2 < (l1.length : Int)
          rotate_left
          ·rw [if_neg c29] at H
           exact absurd H (by simp)
          rw [if_pos c29] at H
          have c29b0 : decide (x7_2 < (l1.length : Int)) = true := decide_eq_true c29
          clear c29
          by_cases c30 : (rd l1 x8_4) = (rd l1 x7_2)
          rotate_left
          ·rw [if_neg c30] at H
           have c30b0 : ((rd l1 x8_4) == (rd l1 x7_2)) = false := beq_eq_false_iff_ne.mpr c30
           have c30b1 : ((rd l1 x8_4) != (rd l1 x7_2)) = true := bne_iff_ne.mpr c30
           have H' := Aside0.mk H
           clear H
           try go_wp2
           replace HO_6 := Aside0.mk (Kd.R_drew HO_6.out)
           replace BK396 := Aside0.mk (blk_drew BK396.out)
           replace BK397 := Aside0.mk (blk_drew BK397.out)
           replace HB := Aside0.mk (below_drew1 HB.out)
           have p401 : 0 ≤ (x8_4 : Int) := of_decide_eq_true (by first | (with_reducible assumption) | assumption)
           have q401 : x8_4 < (l1.length : Int) := of_decide_eq_true (by first | (with_reducible assumption) | assumption)
           obtain ⟨ad401, e401, hx401_0⟩ := Kd.at_int HR1.out x8_4 p401 q401
           have hw401_0 := hx401_0
           cases e401
           replace hx401_0 := (HB.out.cell (World.block_lt_of_cell? w _ hx401_0)).trans hx401_0
           replace p401 := eq_true p401
           replace q401 := eq_true q401
           have p402 : 0 ≤ (x7_2 : Int) := of_decide_eq_true (by first | (with_reducible assumption) | assumption)
           have q402 : x7_2 < (l1.length : Int) := of_decide_eq_true (by first | (with_reducible assumption) | assumption)
           obtain ⟨ad402, e402, hx402_0⟩ := Kd.at_int HR1.out x7_2 p402 q402
           have hw402_0 := hx402_0
           obtain rfl : ad401 = ad402 := (by injection e402)
           replace hx402_0 := (HB.out.cell (World.block_lt_of_cell? w _ hx402_0)).trans hx402_0
           replace p402 := eq_true p402
           replace q402 := eq_true q402
           refine start_ (n := 9) (S := fun w' => w'.cell? (ad401.add (x8_4).toNat) = some (.int .i64 (rd l1 x8_4)) ∧ w'.cell? (ad401.add (x7_2).toNat) = some (.int .i64 (rd l1 x7_2))) (ds := []) #[false, false, false, false, false, false, false, false, false] (by kernel_rfl) rfl rfl ⟨((HB.out.cell (World.block_lt_of_cell? w _ hw401_0)).trans hw401_0), ((HB.out.cell (World.block_lt_of_cell? w _ hw402_0)).trans hw402_0)⟩ (fun hHeld => ?_); refine with_tabW carouselref5_Turn.tab12 carouselref5_Turn.bits12 (fun HT_ HW_ => ?_)
           generalize wr.drew = w34 at HO_6 BK396 BK397 HB hx401_0 hx402_0 hHeld ⊢
           refine yp_ ?_ 0 55
           refine yp_ ?_ 1 56
           refine yp_ ?_ 2 57
           refine yp_ ?_ 4 59
           refine yp_ ?_ 5 60
           refine yp_ ?_ 6 61
           refine yt2_ ?_ 3 58
           refine yt2_ ?_ 7 62
           refine yp_ ?_ 8 63
           refine done_ (done_of HT_.out (by kernel_rfl)) ?_
           try go_wp2
           go_roundg k4
           case measure => have := HJ2.out; have := HK2.out; have := HJ18.out; have := HK4.out; omega
           case rel => exact ⟨(wrap64 (x8_4 + 1)), z1_, H', ⟨by have := HJ2.out; have := HK2.out; have := HJ18.out; have := HK4.out; omega⟩, ⟨zr_ HO_6.out⟩, ⟨zb_ BK396⟩, ⟨zb_ BK397⟩, ⟨zw2_ HB GE396 GE397⟩⟩
          rw [if_pos c30] at H
          have c30b0 : ((rd l1 x8_4) == (rd l1 x7_2)) = true := beq_iff_eq.mpr c30
          have c30b1 : ((rd l1 x8_4) != (rd l1 x7_2)) = false := bne_eq_false_iff_eq.mpr c30
          clear c30
          simp only [Option.some.injEq, Prod.mk.injEq] at H
          obtain ⟨rfl, rfl, rfl⟩ := H
          try go_wp2
          replace HO_6 := Aside0.mk (Kd.R_drew HO_6.out)
          replace BK396 := Aside0.mk (blk_drew BK396.out)
          replace BK397 := Aside0.mk (blk_drew BK397.out)
          replace HB := Aside0.mk (below_drew1 HB.out)
          have p401 : 0 ≤ (x8_4 : Int) := of_decide_eq_true (by first | (with_reducible assumption) | assumption)
          have q401 : x8_4 < (l1.length : Int) := of_decide_eq_true (by first | (with_reducible assumption) | assumption)
          obtain ⟨ad401, e401, hx401_0⟩ := Kd.at_int HR1.out x8_4 p401 q401
          have hw401_0 := hx401_0
          cases e401
          replace hx401_0 := (HB.out.cell (World.block_lt_of_cell? w _ hx401_0)).trans hx401_0
          replace p401 := eq_true p401
          replace q401 := eq_true q401
          have p402 : 0 ≤ (x7_2 : Int) := of_decide_eq_true (by first | (with_reducible assumption) | assumption)
          have q402 : x7_2 < (l1.length : Int) := of_decide_eq_true (by first | (with_reducible assumption) | assumption)
          obtain ⟨ad402, e402, hx402_0⟩ := Kd.at_int HR1.out x7_2 p402 q402
          have hw402_0 := hx402_0
          obtain rfl : ad401 = ad402 := (by injection e402)
          replace hx402_0 := (HB.out.cell (World.block_lt_of_cell? w _ hx402_0)).trans hx402_0
          replace p402 := eq_true p402
          replace q402 := eq_true q402
          refine start_ (n := 9) (S := fun w' => w'.cell? (ad401.add (x8_4).toNat) = some (.int .i64 (rd l1 x8_4)) ∧ w'.cell? (ad401.add (x7_2).toNat) = some (.int .i64 (rd l1 x7_2))) (ds := []) #[false, false, false, false, false, false, false, false, false] (by kernel_rfl) rfl rfl ⟨((HB.out.cell (World.block_lt_of_cell? w _ hw401_0)).trans hw401_0), ((HB.out.cell (World.block_lt_of_cell? w _ hw402_0)).trans hw402_0)⟩ (fun hHeld => ?_); refine with_tabW carouselref5_Turn.tab12 carouselref5_Turn.bits12 (fun HT_ HW_ => ?_)
          generalize wr.drew = w31 at HO_6 BK396 BK397 HB hx401_0 hx402_0 hHeld ⊢
          refine yp_ ?_ 0 55
          refine yp_ ?_ 1 56
          refine yp_ ?_ 2 57
          refine yp_ ?_ 4 59
          refine yp_ ?_ 5 60
          refine yp_ ?_ 6 61
          refine yt2_ ?_ 3 58
          refine yt2_ ?_ 7 62
          refine yp_ ?_ 8 63
          refine done_ (done_of HT_.out (by kernel_rfl)) ?_
          have hnb32 := NB397_396.out
          have hnc32 := NB396_397.out
          have hcz33_0 := zx_ (v := .slice none 0 0) BK397 0
          have hcz33_1 := zx_ (v := .slice none 0 0) BK397 1
          have hfz33_0 := blk_frozen BK397.out 0
          have hfz33_1 := blk_frozen BK397.out 1
          try go_wp2
          refine bodyPost_ret (results_ct rfl _ _ gb397 27 #[.slice none 0 0, .slice none 0 0] (0, 0) _ rfl (zo2_ BK397) Try.underlying27 rfl (by kernel_rfl)) rfl ?_
          exact ⟨_, _, z0_, z2_, z2_, zw2_ HB GE396 GE397⟩
     rw [if_neg c18] at H
     have c18b0 : decide (x7_2 < (l1.length : Int)) = false := decide_eq_false c18
     clear c18
     replace H := Option.bind_eq_some_iff.mp H
     obtain ⟨⟨t408, t411⟩, A420, H⟩ := H
     replace H : (carouselref5_Turn.l2 k2 l1 x6_2 0 l0_0 l0_1 t408 t411) = some (r1, r2, r3) := H
     have A42 := Aside0.mk A420
     clear A420
     have H' := Aside0.mk H
     clear H
     obtain ⟨Ao43, co43, eo43⟩ := Kd.R_slice HO_6.out
     subst eo43
     go_wp2_with (first | ((with_reducible refine gate_callee (f := 15) rfl ?_); refine zg_ (some 77) Try.func15 #[.slice Ao43 x6_2.length co43, .int .i64 0] (h := ?_); (with_reducible refine (carouselref5_New.calls k2 _ _ x6_2 0 t408 t411 _ ?side1 ?side2 A42.out).mono ?_); (case side1 => exact zk_ ((Kd.R_reads' HO_6.out).2.2)); (case side2 => exact (Kd.R_reads' HO_6.out).2.1); rintro e w44 ⟨v409, v412, rfl, ho0, ho1, hb⟩; refine ⟨_, rfl, ?_⟩; have HO410 := Aside0.mk (Kd.R_lower (Kd.R_new' ho0 (Kd.R_lt (zr_ HO_6.out))) (below_size (zw2_ HB GE396 GE397))); replace HO_6 := ze_ HO_6 ho0 hb; have HO413 := Aside0.mk (Kd.R_lower ho1 (below_size (zw2_ HB GE396 GE397))); replace BK396 := za_ BK396 hb; replace BK397 := za_ BK397 hb; replace HB := Aside0.mk (below_step (zw2_ HB GE396 GE397) hb); (try clear hb); (try clear ho0); (try clear ho1)) | ((with_reducible refine gate_dst (N := 9) rfl ?_); (try (refine gate_guard (by rfl) ?_; dsimp only)); refine box_event ?hg (N := 9) ?hd (cs := #[.slice none 0 0, .slice none 0 0]) (t := 27) ?hr ?_; (case hd => rfl); (case hg => rfl); (case hr => first | (go_simp; done) | (go_simp; rfl)); intro gb414 hg w45 hbox hb; replace HO_6 := zy_ HO_6 hb; replace HO410 := zy_ HO410 hb; replace HO413 := zy_ HO413 hb; have BK414 := Aside0.mk (hbox); have GW414 := Aside0.mk (zs_ hg (zw2_ HB GE396 GE397)); have GE414 := Aside0.mk (zs_ hg (zw2_ HB GE396 GE397)); replace HB := Aside0.mk (below_step (zw2_ HB GE396 GE397) hb); have NB396_414 := Aside0.mk (zn_ hg BK396); have NB414_396 := Aside0.mk (zm_ hg BK396); replace BK396 := za_ BK396 hb; have NB397_414 := Aside0.mk (zn_ hg BK397); have NB414_397 := Aside0.mk (zm_ hg BK397); replace BK397 := za_ BK397 hb; clear hb hbox hg; obtain ⟨Ao46, co46, eo46⟩ := Kd.R_slice HO410.out; subst eo46; have hnb47 := NB414_396.out; have hnc47 := NB396_414.out; have hnb48 := NB414_397.out; have hnc48 := NB397_414.out; have hcz49_0 := zx_ (v := .slice none 0 0) BK414 0; have hcz49_1 := zx_ (v := .slice none 0 0) BK414 1; have hfz49_0 := blk_frozen BK414.out 0; have hfz49_1 := blk_frozen BK414.out 1; obtain ⟨Ao50, co50, eo50⟩ := Kd.R_slice HO413.out; subst eo50))
     go_loopg [10] k2 (fun kq v10 w' => ∃ (x6_3 : List Int) (x10_3 : Int) (x415000_3 : List Int) (x415001_3 : List Int) (u415000 : Value) (u415001 : Value), v10 = .int .i64 x10_3 ∧ Aside0 (carouselref5_Turn.l2 kq l1 x6_3 x10_3 l0_0 l0_1 x415000_3 x415001_3 = some (r1, r2, r3)) ∧ Aside0 (kq ≤ k2) ∧ Aside0 (Kd.R (Kd.int .i64) 3 w' w.heap.size (fun k_ => some k_ ≠ (u415000 : Value).ownBlock) (.slice Ao43 x6_2.length co43) x6_3) ∧ Aside0 (Kd.R (Kd.int .i64) 3 w' w.heap.size (fun k_ => some k_ ≠ ((.slice Ao43 x6_2.length co43) : Value).ownBlock) u415000 x415000_3) ∧ Aside0 (Kd.R (Kd.int .i64) 23 w' w.heap.size (fun _ => True) u415001 x415001_3) ∧ Aside0 (w'.heap[gb396]? = some (.cells #[(.slice A0_0 l0_0.length c0_0), (.slice A0_1 l0_1.length c0_1)] 27 (0, 0))) ∧ Aside0 (w'.heap[gb397]? = some (.cells #[(.slice none 0 0), (.slice none 0 0)] 27 (0, 0))) ∧ Aside0 (w'.heap[gb414]? = some (.cells #[u415000, u415001] 27 (0, 0))) ∧ Aside0 (Below w.heap.size w w'))
     case atStart => exact ⟨(x6_2), (0), (t408), (t411), (.slice Ao46 t408.length co46), (.slice Ao50 t411.length co50), z1_, H', ⟨Nat.le_refl _⟩, ⟨zr_ (Kd.R_mono (Kd.R_far (p := ⟨gb414, 1, none⟩) (Kd.R_far (p := ⟨gb414, 0, none⟩) (Kd.R_types HO_6.out BK414.out (by decide)) (fun _ hk => hk.2) (.slice Ao46 t408.length co46)) (fun _ hk => hk.2) (.slice Ao50 t411.length co50)) (fun _ hk => hk.1.2))⟩, ⟨zr_ (Kd.R_mono (Kd.R_far (p := ⟨gb414, 1, none⟩) (Kd.R_far (p := ⟨gb414, 0, none⟩) (Kd.R_types HO410.out BK414.out (by decide)) (fun _ hk => hk.2) (.slice Ao46 t408.length co46)) (fun _ hk => hk.2) (.slice Ao50 t411.length co50)) (fun _ hk => hk.1.2))⟩, ⟨zr_ (Kd.R_mono (Kd.R_far (p := ⟨gb414, 1, none⟩) (Kd.R_far (p := ⟨gb414, 0, none⟩) (Kd.R_types HO413.out BK414.out (by decide)) (fun _ hk => hk.2) (.slice Ao46 t408.length co46)) (fun _ hk => hk.2) (.slice Ao50 t411.length co50)) (fun _ hk => trivial))⟩, ⟨zv1_ BK396 NB396_414⟩, ⟨zv1_ BK397 NB397_414⟩, ⟨zo2_ BK414⟩, ⟨zw3_ HB GE396 GE397 GE414⟩⟩
     case round =>
      clear H'
      try clear c1
      try clear c2
      try clear p2
      try clear c3
      try clear p3
      try clear q3
      try clear hx3
      try clear c4
      try clear p4
      try clear q4
      try clear hx4
      try clear p6
      try clear c7
      try clear c8
      try clear c12
      try clear c15
      try clear c16
      try clear c18
      try clear c18b0
      try clear c20
      try clear c20b0
      try clear c21
      try clear c21b0
      try clear c22
      try clear c23
      try clear c25
      try clear c25b0
      try clear c26
      try clear c26b0
      try clear c27
      try clear c27b0
      try clear c28
      try clear c28b0
      try clear c29
      try clear c29b0
      try clear c30
      try clear c30b0
      try clear c30b1
      try clear c32
      try clear c35
      try clear c35b0
      try clear c36
      try clear c36b0
      try clear c37
      try clear c37b0
      try clear c38
      try clear c38b0
      try clear c39
      try clear p39
      try clear q39
      try clear hx39
      try clear p40
      try clear q40
      try clear hx40
      try clear c47
      try clear c48
      try clear hcz11_0
      try clear hcz11_1
      try clear hcz13_0
      try clear hcz13_1
      try clear hcz17_0
      try clear hcz17_1
      try clear hcz24_0
      try clear hcz24_1
      try clear hcz33_0
      try clear hcz33_1
      try clear hcz49_0
      try clear hcz49_1
      try clear hcz9_0
      try clear hcz9_1
      try clear hfz11_0
      try clear hfz11_1
      try clear hfz13_0
      try clear hfz13_1
      try clear hfz17_0
      try clear hfz17_1
      try clear hfz24_0
      try clear hfz24_1
      try clear hfz33_0
      try clear hfz33_1
      try clear hfz49_0
      try clear hfz49_1
      try clear hfz9_0
      try clear hfz9_1
      try clear hx399_0
      try clear hx400_0
      try clear hx401_0
      try clear hx402_0
      try clear hx403_0
      try clear hx404_0
      try clear p2
      try clear p3
      try clear p399
      try clear p4
      try clear p400
      try clear p401
      try clear p402
      try clear p403
      try clear p404
      try clear q3
      try clear q399
      try clear q4
      try clear q400
      try clear q401
      try clear q402
      try clear q403
      try clear q404
      obtain ⟨x6_3, x10_3, x415000_3, x415001_3, u415000, u415001, rfl, HA, HK3, HO_6, HO_415000, HO_415001, BK396, BK397, BK414, HB⟩ := hrel
      have hl6_3 := (Kd.R_reads' HO_6.out).1
      rw [hl6_3] at HO_6
      (try simp only [hl6_3])
      (try simp only [hl6_3] at BK396)
      (try simp only [hl6_3] at BK397)
      (try simp only [hl6_3] at BK414)
      (try simp only [hl6_3] at HO_415000)
      (try simp only [hl6_3] at HO_415001)
      cases gk with
      | zero => exact absurd HA.out (by simp [carouselref5_Turn.l2])
      | succ k3 =>
       have H := HA.out
       clear HA
       simp only [carouselref5_Turn.l2] at H
       by_cases c51 : x10_3 < (x415001_3.length : Int)
       rotate_left
       ·rw [if_neg c51] at H
        have c51b0 : decide (x10_3 < (x415001_3.length : Int)) = false := decide_eq_false c51
        clear c51
        simp only [Option.some.injEq, Prod.mk.injEq] at H
        obtain ⟨rfl, rfl, rfl⟩ := H
        have hnb83 := NB414_396.out
        have hnc83 := NB396_414.out
        have hnb84 := NB414_397.out
        have hnc84 := NB397_414.out
        have hcz85_0 := zx_ (v := u415000) BK414 0
        have hcz85_1 := zx_ (v := u415001) BK414 1
        have hfz85_0 := blk_frozen BK414.out 0
        have hfz85_1 := blk_frozen BK414.out 1
        obtain ⟨Ao86, co86, eo86⟩ := Kd.R_slice HO_415001.out
        subst eo86
        obtain ⟨Ao87, co87, eo87⟩ := Kd.R_slice HO_415000.out
        subst eo87
        have hnb88 := NB397_396.out
        have hnc88 := NB396_397.out
        have hcz89_0 := zx_ (v := .slice none 0 0) BK397 0
        have hcz89_1 := zx_ (v := .slice none 0 0) BK397 1
        have hfz89_0 := blk_frozen BK397.out 0
        have hfz89_1 := blk_frozen BK397.out 1
        go_wp2
        refine bodyPost_ret (results_ct rfl _ _ gb397 27 #[.slice Ao87 x415000_3.length co87, .slice Ao86 x415001_3.length co86] (0, 0) _ rfl (zo2_ BK397) Try.underlying27 rfl (by kernel_rfl)) rfl ?_
        exact ⟨_, _, z0_, zr_ (Kd.R_mono (Kd.R_far (p := ⟨gb397, 1, none⟩) (Kd.R_far (p := ⟨gb397, 0, none⟩) (Kd.R_types HO_415000.out BK397.out (by decide)) (fun _ hk => hk.2) (.slice Ao87 x415000_3.length co87)) (fun _ hk => hk.2) (.slice Ao86 x415001_3.length co86)) (fun _ hk => trivial)), zr_ (Kd.R_mono (Kd.R_far (p := ⟨gb397, 1, none⟩) (Kd.R_far (p := ⟨gb397, 0, none⟩) (Kd.R_types HO_415001.out BK397.out (by decide)) (fun _ hk => hk.2) (.slice Ao87 x415000_3.length co87)) (fun _ hk => hk.2) (.slice Ao86 x415001_3.length co86)) (fun _ hk => trivial)), zw3_ HB GE396 GE397 GE414⟩
       rw [if_pos c51] at H
       have c51b0 : decide (x10_3 < (x415001_3.length : Int)) = true := decide_eq_true c51
       clear c51
       replace H := Option.bind_eq_some_iff.mp H
       obtain ⟨⟨t415, t416⟩, A520, H⟩ := H
       (try dsimp only at H)
       have A52 := Aside0.mk A520
       clear A520
       by_cases c53 : 0 ≤ (t415.length : Int)
       rotate_left
       ·rw [if_neg c53] at H
        exact absurd H (by simp)
       rw [if_pos c53] at H
       have c53b0 := eq_true c53
       have c53b1 : decide (0 ≤ (t415.length : Int)) = true := decide_eq_true c53
       clear c53
       by_cases c54 : ((t415.length : Int) : Int).toNat ≤ 35184372088832
       rotate_left
       ·rw [if_neg c54] at H
        exact absurd H (by simp)
       rw [if_pos c54] at H
       have c54b0 := eq_true c54
       have c54b1 : decide (((t415.length : Int) : Int).toNat ≤ 35184372088832) = true := decide_eq_true c54
       clear c54
       obtain ⟨y419, hy419⟩ : ∃ y_ : List Int, y_ = (List.replicate ((t415.length : Int) : Int).toNat 0) := ⟨_, rfl⟩
       replace H : (carouselref5_Turn.l3 k3 l1 x6_3 x10_3 t415 y419 0 l0_0 l0_1 x415000_3 x415001_3) = some (r1, r2, r3) := by first | (rw [hy419]; with_reducible exact H) | (have H2_ := (Option.bind_some _ _).symm.trans H; rw [hy419]; with_reducible exact H2_) | (have H2_ := (Option.bind_some _ _).symm.trans H; with_reducible exact H2_) | with_reducible exact H | (rw [hy419]; exact H) | exact H
       have Ny419 := Aside0.mk hy419
       clear hy419
       have H' := Aside0.mk H
       clear H
       have hnb55 := NB414_396.out
       have hnc55 := NB396_414.out
       have hnb56 := NB414_397.out
       have hnc56 := NB397_414.out
       have hcz57_0 := zx_ (v := u415000) BK414 0
       have hcz57_1 := zx_ (v := u415001) BK414 1
       have hfz57_0 := blk_frozen BK414.out 0
       have hfz57_1 := blk_frozen BK414.out 1
       obtain ⟨Ao58, co58, eo58⟩ := Kd.R_slice HO_415001.out
       subst eo58
       go_wp2_with (first | ((with_reducible refine gate_callee (f := 57) rfl ?_); refine zg_ (some 88) Try.func57 #[.slice Ao43 x6_3.length co43, .int .i64 x10_3] (h := ?_); (with_reducible refine (carouselref5_Place.calls k3 _ _ x6_3 x10_3 t415 t416 _ ?side1 ?side2 A52.out).mono ?_); (case side1 => exact zk_ ((Kd.R_reads' HO_6.out).2.2)); (case side2 => exact (Kd.R_reads' HO_6.out).2.1); rintro e w59 ⟨v417, rfl, ho0, hb⟩; refine ⟨_, rfl, ?_⟩; replace HO_415001 := zy_ HO_415001 hb; have HO418 := Aside0.mk (Kd.R_lower (Kd.R_new' (Kd.R_new' ho0 (Kd.R_lt (zr_ HO_6.out))) (Kd.R_lt (zr_ HO_415000.out))) (below_size (zw3_ HB GE396 GE397 GE414))); replace HO_6 := ze_ HO_6 ho0 hb; replace HO_415000 := ze_ HO_415000 ho0 hb; replace BK396 := za_ BK396 hb; replace BK397 := za_ BK397 hb; replace BK414 := za_ BK414 hb; replace HB := Aside0.mk (below_step (zw3_ HB GE396 GE397 GE414) hb); (try clear hb); (try clear ho0); obtain ⟨Ao60, co60, eo60⟩ := Kd.R_slice HO418.out; subst eo60) | ((with_reducible refine gate_dst (N := 93) rfl ?_); (try (refine gate_guard (by rfl) ?_; dsimp only)); refine Kd.R_make (Kd.int .i64) _ 3 rfl (N := 93) rfl 22 _ _ rfl (t415.length : Int) rfl rfl Try.underlying22 (.int .i64 0) 8 info3 rfl (by decide) (by omega) 0 (ok := fun _ => True) (okp := fun _ => True) rfl (fun _ hk => hk) trivial (of_decide_eq_true (by first | (with_reducible assumption) | assumption)) (Nat.le_trans (Nat.mul_le_mul_right _ (of_decide_eq_true (by first | (with_reducible assumption) | assumption) : (t415.length : Int).toNat ≤ 35184372088832)) (by omega)) (Below.refl _ _) (Nat.le_refl _) ?_; intro v420 w61 ho62 hb hg_ hnew_; clear hg_ hnew_; (first | rw [← Ny419.out] at ho62 | (simp only [Int.reduceToNat] at ho62; rw [← Ny419.out] at ho62)); replace HO_415001 := zy_ HO_415001 hb; have HO421 := Aside0.mk (Kd.R_lower (Kd.R_new' (Kd.R_new' (Kd.R_new' ho62 (Kd.R_lt (zr_ HO_6.out))) (Kd.R_lt (zr_ HO_415000.out))) (Kd.R_lt (zr_ HO418.out))) (below_size (zw3_ HB GE396 GE397 GE414))); replace HO_6 := ze_ HO_6 ho62 hb; replace HO_415000 := ze_ HO_415000 ho62 hb; replace HO418 := ze_ HO418 ho62 hb; replace BK396 := za_ BK396 hb; replace BK397 := za_ BK397 hb; replace BK414 := za_ BK414 hb; replace HB := Aside0.mk (below_step (zw3_ HB GE396 GE397 GE414) hb); clear hb ho62))
       go_loopg [14] k3 (fun kq v14 w' => ∃ (x13_4 : List Int) (x14_4 : Int), v14 = .int .i64 x14_4 ∧ Aside0 (carouselref5_Turn.l3 kq l1 x6_3 x10_3 t415 x13_4 x14_4 l0_0 l0_1 x415000_3 x415001_3 = some (r1, r2, r3)) ∧ Aside0 (kq ≤ k3) ∧ Aside0 (Kd.R (Kd.int .i64) 3 w' w.heap.size (fun k_ => some k_ ≠ ((.slice Ao60 t415.length co60) : Value).ownBlock ∧ some k_ ≠ (v420 : Value).ownBlock ∧ some k_ ≠ (u415000 : Value).ownBlock) (.slice Ao43 x6_3.length co43) x6_3) ∧ Aside0 (Kd.R (Kd.int .i64) 3 w' w.heap.size (fun k_ => some k_ ≠ ((.slice Ao43 x6_3.length co43) : Value).ownBlock ∧ some k_ ≠ (v420 : Value).ownBlock ∧ some k_ ≠ (u415000 : Value).ownBlock) (.slice Ao60 t415.length co60) t415) ∧ Aside0 (Kd.R (Kd.int .i64) 3 w' w.heap.size (fun k_ => some k_ ≠ ((.slice Ao43 x6_3.length co43) : Value).ownBlock ∧ some k_ ≠ ((.slice Ao60 t415.length co60) : Value).ownBlock ∧ some k_ ≠ (u415000 : Value).ownBlock) v420 x13_4) ∧ Aside0 (Kd.R (Kd.int .i64) 3 w' w.heap.size (fun k_ => some k_ ≠ ((.slice Ao43 x6_3.length co43) : Value).ownBlock ∧ some k_ ≠ ((.slice Ao60 t415.length co60) : Value).ownBlock ∧ some k_ ≠ (v420 : Value).ownBlock) u415000 x415000_3) ∧ Aside0 (Kd.R (Kd.int .i64) 23 w' w.heap.size (fun _ => True) (.slice Ao58 x415001_3.length co58) x415001_3) ∧ Aside0 (w'.heap[gb396]? = some (.cells #[(.slice A0_0 l0_0.length c0_0), (.slice A0_1 l0_1.length c0_1)] 27 (0, 0))) ∧ Aside0 (w'.heap[gb397]? = some (.cells #[(.slice none 0 0), (.slice none 0 0)] 27 (0, 0))) ∧ Aside0 (w'.heap[gb414]? = some (.cells #[u415000, (.slice Ao58 x415001_3.length co58)] 27 (0, 0))) ∧ Aside0 (Below w.heap.size w w'))
       case atStart => exact ⟨(y419), (0), z1_, H', ⟨Nat.le_refl _⟩, ⟨by (try simp only [hl6_3]); (with_reducible repeat (first | apply Kd.R_alloc | apply Kd.R_drewN | apply Kd.R_drew)); exact Kd.R_mono HO_6.out (fun _ hk => ⟨hk.1.2, ⟨hk.2, hk.1.1⟩⟩)⟩, ⟨by (try simp only [hl6_3]); (with_reducible repeat (first | apply Kd.R_alloc | apply Kd.R_drewN | apply Kd.R_drew)); exact Kd.R_mono HO418.out (fun _ hk => ⟨hk.1.1.2, ⟨hk.2, hk.1.2⟩⟩)⟩, ⟨by (try simp only [hl6_3]); (with_reducible repeat (first | apply Kd.R_alloc | apply Kd.R_drewN | apply Kd.R_drew)); exact Kd.R_mono HO421.out (fun _ hk => ⟨hk.1.1.2, ⟨hk.2, hk.1.2⟩⟩)⟩, ⟨by (try simp only [hl6_3]); (with_reducible repeat (first | apply Kd.R_alloc | apply Kd.R_drewN | apply Kd.R_drew)); exact Kd.R_mono HO_415000.out (fun _ hk => ⟨hk.1.1, ⟨hk.1.2, hk.2⟩⟩)⟩, ⟨by (try simp only [hl6_3]); (with_reducible repeat (first | apply Kd.R_alloc | apply Kd.R_drewN | apply Kd.R_drew)); exact HO_415001.out⟩, ⟨by (try simp only [hl6_3]); (with_reducible repeat (first | refine blk_drewN ?_ _ | refine blk_drew ?_ | refine blk_alloc ?_ _)); exact BK396.out⟩, ⟨by (try simp only [hl6_3]); (with_reducible repeat (first | refine blk_drewN ?_ _ | refine blk_drew ?_ | refine blk_alloc ?_ _)); exact BK397.out⟩, ⟨by (try simp only [hl6_3]); (with_reducible repeat (first | refine blk_drewN ?_ _ | refine blk_drew ?_ | refine blk_alloc ?_ _)); exact BK414.out⟩, ⟨zw3_ HB GE396 GE397 GE414⟩⟩
       case round =>
        clear H'
        try clear c1
        try clear c2
        try clear p2
        try clear c3
        try clear p3
        try clear q3
        try clear hx3
        try clear c4
        try clear p4
        try clear q4
        try clear hx4
        try clear c5
        try clear p6
        try clear c7
        try clear c8
        try clear c12
        try clear c15
        try clear c16
        try clear c18
        try clear c18b0
        try clear c20
        try clear c20b0
        try clear c21
        try clear c21b0
        try clear c22
        try clear c23
        try clear c25
        try clear c25b0
        try clear c26
        try clear c26b0
        try clear c27
        try clear c27b0
        try clear c28
        try clear c28b0
        try clear c29
        try clear c29b0
        try clear c30
        try clear c30b0
        try clear c30b1
        try clear c32
        try clear c35
        try clear c35b0
        try clear c36
        try clear c36b0
        try clear c37
        try clear c37b0
        try clear c38
        try clear c38b0
        try clear c39
        try clear p39
        try clear q39
        try clear hx39
        try clear p40
        try clear q40
        try clear hx40
        try clear c47
        try clear c48
        try clear c51
        try clear c51b0
        try clear c53
        try clear c53b0
        try clear c53b1
        try clear c54
        try clear c54b0
        try clear c54b1
        try clear c55
        try clear c56
        try clear c57
        try clear hcz11_0
        try clear hcz11_1
        try clear hcz13_0
        try clear hcz13_1
        try clear hcz17_0
        try clear hcz17_1
        try clear hcz24_0
        try clear hcz24_1
        try clear hcz33_0
        try clear hcz33_1
        try clear hcz49_0
        try clear hcz49_1
        try clear hcz57_0
        try clear hcz57_1
        try clear hcz9_0
        try clear hcz9_1
        try clear hfz11_0
        try clear hfz11_1
        try clear hfz13_0
        try clear hfz13_1
        try clear hfz17_0
        try clear hfz17_1
        try clear hfz24_0
        try clear hfz24_1
        try clear hfz33_0
        try clear hfz33_1
        try clear hfz49_0
        try clear hfz49_1
        try clear hfz57_0
        try clear hfz57_1
        try clear hfz9_0
        try clear hfz9_1
        try clear hx399_0
        try clear hx400_0
        try clear hx401_0
        try clear hx402_0
        try clear hx403_0
        try clear hx404_0
        try clear p2
        try clear p3
        try clear p39
        try clear p399
        try clear p4
        try clear p40
        try clear p400
        try clear p401
        try clear p402
        try clear p403
        try clear p404
        try clear p6
        try clear q3
        try clear q39
        try clear q399
        try clear q4
        try clear q40
        try clear q400
        try clear q401
        try clear q402
        try clear q403
        try clear q404
        obtain ⟨x13_4, x14_4, rfl, HA, HK4, HO_6, HO_11, HO_13, HO_415000, HO_415001, BK396, BK397, BK414, HB⟩ := hrel
        cases gk with
        | zero => exact absurd HA.out (by simp [carouselref5_Turn.l3])
        | succ k4 =>
         have H := HA.out
         clear HA
         simp only [carouselref5_Turn.l3] at H
         by_cases c63 : x14_4 < (t415.length : Int)
         ·rw [if_pos c63] at H
          have c63b0 : decide (x14_4 < (t415.length : Int)) = true := decide_eq_true c63
          clear c63
          by_cases c64 : 0 ≤ x14_4
          rotate_left
          ·rw [if_neg c64] at H
           exact absurd H (by simp)
          rw [if_pos c64] at H
          have c64b0 : decide (0 ≤ x14_4) = true := decide_eq_true c64
          clear c64
          by_cases c65 : x14_4 < (l1.length : Int)
          rotate_left
          ·rw [if_neg c65] at H
           exact absurd H (by simp)
          rw [if_pos c65] at H
          have c65b0 : decide (x14_4 < (l1.length : Int)) = true := decide_eq_true c65
          clear c65
          by_cases c66 : 0 ≤ (rd l1 x14_4)
          rotate_left
          ·rw [if_neg c66] at H
           exact absurd H (by simp)
          rw [if_pos c66] at H
          have c66b0 : decide (0 ≤ (rd l1 x14_4)) = true := decide_eq_true c66
          clear c66
          by_cases c67 : (rd l1 x14_4) < (x13_4.length : Int)
          rotate_left
          ·rw [if_neg c67] at H
           exact absurd H (by simp)
          rw [if_pos c67] at H
          have c67b0 : decide ((rd l1 x14_4) < (x13_4.length : Int)) = true := decide_eq_true c67
          clear c67
          obtain ⟨y424, hy424⟩ : ∃ y_ : List Int, y_ = (x13_4.set ((rd l1 x14_4) : Int).toNat (rd t415 x14_4)) := ⟨_, rfl⟩
          replace H : (carouselref5_Turn.l3 k4 l1 x6_3 x10_3 t415 y424 (wrap64 (x14_4 + 1)) l0_0 l0_1 x415000_3 x415001_3) = some (r1, r2, r3) := by first | (rw [hy424]; with_reducible exact H) | (have H2_ := (Option.bind_some _ _).symm.trans H; rw [hy424]; with_reducible exact H2_) | (have H2_ := (Option.bind_some _ _).symm.trans H; with_reducible exact H2_) | with_reducible exact H | (rw [hy424]; exact H) | exact H
          have Ny424 := Aside0.mk hy424
          clear hy424
          have H' := Aside0.mk H
          clear H
          try go_wp2
          replace HO_6 := Aside0.mk (Kd.R_drew HO_6.out)
          replace HO_11 := Aside0.mk (Kd.R_drew HO_11.out)
          replace HO_13 := Aside0.mk (Kd.R_drew HO_13.out)
          replace HO_415000 := Aside0.mk (Kd.R_drew HO_415000.out)
          replace HO_415001 := Aside0.mk (Kd.R_drew HO_415001.out)
          replace BK396 := Aside0.mk (blk_drew BK396.out)
          replace BK397 := Aside0.mk (blk_drew BK397.out)
          replace BK414 := Aside0.mk (blk_drew BK414.out)
          replace HB := Aside0.mk (below_drew1 HB.out)
          have p422 : 0 ≤ (x14_4 : Int) := of_decide_eq_true (by first | (with_reducible assumption) | assumption)
          have q422 : x14_4 < (l1.length : Int) := of_decide_eq_true (by first | (with_reducible assumption) | assumption)
          obtain ⟨ad422, e422, hx422_0⟩ := Kd.at_int HR1.out x14_4 p422 q422
          have hw422_0 := hx422_0
          cases e422
          replace hx422_0 := (HB.out.cell (World.block_lt_of_cell? w _ hx422_0)).trans hx422_0
          replace p422 := eq_true p422
          replace q422 := eq_true q422
          have p423 : 0 ≤ (x14_4 : Int) := of_decide_eq_true (by first | (with_reducible assumption) | assumption)
          have q423 : x14_4 < (t415.length : Int) := of_decide_eq_true (by first | (with_reducible assumption) | assumption)
          obtain ⟨ad423, e423, hx423_0⟩ := Kd.at_int (Kd.R_reads' HO_11.out).2.2 x14_4 p423 q423
          cases e423
          replace p423 := eq_true p423
          replace q423 := eq_true q423
          have p68 : 0 ≤ ((rd l1 x14_4) : Int) := of_decide_eq_true (by first | (with_reducible assumption) | assumption)
          have q68 : ((rd l1 x14_4) : Int) < ((x13_4.length : Int) : Int) := of_decide_eq_true (by first | (with_reducible assumption) | assumption)
          obtain ⟨go68, co68, eo68, gb68, gl68, cl68, HG68⟩ := Kd.R_form HO_13.out (by omega)
          (first | cases eo68 | (injection eo68 with ea_ en_ ec_; (first | subst ea_ | (injection ea_ with ea_; subst ea_)); subst ec_; clear en_))
          have GB68 := Aside0.mk gb68
          have GG68 := Aside0.mk HG68
          clear gb68 gl68 HG68
          obtain ⟨hx68_0, hf68_0⟩ := Kd.R_celln 0 HO_13.out ((rd l1 x14_4) : Int) p68 q68
          replace p68 := eq_true p68
          replace q68 := eq_true q68
          have HP70 := Kd.R_putn HO_13.out ((rd l1 x14_4) : Int) (rd t415 x14_4)
          rw [← Ny424.out] at HP70
          have HQ70 := Aside0.mk HP70
          clear HP70
          refine start_ (n := 11) (S := fun w' => w'.cell? (ad422.add (x14_4).toNat) = some (.int .i64 (rd l1 x14_4)) ∧ w'.cell? (ad423.add (x14_4).toNat) = some (.int .i64 (rd t415 x14_4))) (ds := [10]) #[false, false, false, false, false, false, false, false, false, false, false] (by kernel_rfl) rfl rfl ⟨((HB.out.cell (World.block_lt_of_cell? w _ hw422_0)).trans hw422_0), hx423_0⟩ (fun hHeld => ?_); refine with_tabW carouselref5_Turn.tab24 carouselref5_Turn.bits24 (fun HT_ HW_ => ?_)
          generalize wr.drew = w69 at HO_6 HO_11 HO_13 HO_415000 HO_415001 BK396 BK397 BK414 HB GG68 HQ70 hf68_0 hx422_0 hx423_0 hx68_0 hHeld ⊢
          refine yp_ ?_ 0 100
          refine yp_ ?_ 1 101
          refine yp_ ?_ 2 102
          refine yp_ ?_ 3 103
          refine yp_ ?_ 5 105
          refine yp_ ?_ 6 106
          refine yp_ ?_ 7 107
          refine yt2_ ?_ 4 104
          refine yt2_ ?_ 8 108
          refine yp_ ?_ 9 109
          refine yl_ 10 none (fun K hK => ?_)
          refine skip_ (w1 := ?_) (by rfl) rfl ?_ ?_
          rotate_left
          ·go_simp
           rfl
          refine hK.out _ _ ?_
          clear hK K
          refine done_ (done_of HT_.out (by kernel_rfl)) ?_
          try go_wp2
          go_roundg k4
          case measure => have := HJ2.out; have := HK2.out; have := HK3.out; have := HK4.out; omega
          case rel => exact ⟨(y424), (wrap64 (x14_4 + 1)), z1_, H', ⟨by have := HJ2.out; have := HK2.out; have := HK3.out; have := HK4.out; omega⟩, ⟨by (try simp only [hl6_3]); (with_reducible repeat (first | apply Kd.R_alloc | apply Kd.R_drewN | apply Kd.R_drew)); exact Kd.R_mono (Kd.R_far (p := ⟨go68, ((rd l1 x14_4) : Int).toNat, none⟩) (Kd.R_mono HO_6.out (fun k_ hk => (⟨hk, fun e_ => hk.2.1 (by rw [e_]; rfl)⟩ : _ ∧ k_ ≠ go68))) (fun _ hk => hk.2) (.int .i64 (rd t415 x14_4))) (fun _ hk => ⟨hk.1.1, ⟨hk.1.2.1, hk.1.2.2⟩⟩)⟩, ⟨by (try simp only [hl6_3]); (with_reducible repeat (first | apply Kd.R_alloc | apply Kd.R_drewN | apply Kd.R_drew)); exact Kd.R_mono (Kd.R_far (p := ⟨go68, ((rd l1 x14_4) : Int).toNat, none⟩) (Kd.R_mono HO_11.out (fun k_ hk => (⟨hk, fun e_ => hk.2.1 (by rw [e_]; rfl)⟩ : _ ∧ k_ ≠ go68))) (fun _ hk => hk.2) (.int .i64 (rd t415 x14_4))) (fun _ hk => ⟨hk.1.1, ⟨hk.1.2.1, hk.1.2.2⟩⟩)⟩, ⟨by (try simp only [hl6_3]); (with_reducible repeat (first | apply Kd.R_alloc | apply Kd.R_drewN | apply Kd.R_drew)); exact HQ70.out⟩, ⟨by (try simp only [hl6_3]); (with_reducible repeat (first | apply Kd.R_alloc | apply Kd.R_drewN | apply Kd.R_drew)); exact Kd.R_mono (Kd.R_far (p := ⟨go68, ((rd l1 x14_4) : Int).toNat, none⟩) (Kd.R_mono HO_415000.out (fun k_ hk => (⟨hk, fun e_ => hk.2.2 (by rw [e_]; rfl)⟩ : _ ∧ k_ ≠ go68))) (fun _ hk => hk.2) (.int .i64 (rd t415 x14_4))) (fun _ hk => ⟨hk.1.1, ⟨hk.1.2.1, hk.1.2.2⟩⟩)⟩, ⟨by (try simp only [hl6_3]); (with_reducible repeat (first | apply Kd.R_alloc | apply Kd.R_drewN | apply Kd.R_drew)); exact Kd.R_mono (Kd.R_far (p := ⟨go68, ((rd l1 x14_4) : Int).toNat, none⟩) (Kd.R_types HO_415001.out GG68.out (by decide)) (fun _ hk => hk.2) (.int .i64 (rd t415 x14_4))) (fun _ hk => trivial)⟩, ⟨by (try simp only [hl6_3]); (with_reducible repeat (first | refine blk_drewN ?_ _ | refine blk_drew ?_ | refine blk_alloc ?_ _)); refine blk_far ?_ (by have h_ := Kd.R_ne HO_13.out BK396.out (by decide); intro e_; exact h_ (by rw [e_]; rfl)) _; (with_reducible repeat (first | refine blk_drewN ?_ _ | refine blk_drew ?_ | refine blk_alloc ?_ _)); exact BK396.out⟩, ⟨by (try simp only [hl6_3]); (with_reducible repeat (first | refine blk_drewN ?_ _ | refine blk_drew ?_ | refine blk_alloc ?_ _)); refine blk_far ?_ (by have h_ := Kd.R_ne HO_13.out BK397.out (by decide); intro e_; exact h_ (by rw [e_]; rfl)) _; (with_reducible repeat (first | refine blk_drewN ?_ _ | refine blk_drew ?_ | refine blk_alloc ?_ _)); exact BK397.out⟩, ⟨by (try simp only [hl6_3]); (with_reducible repeat (first | refine blk_drewN ?_ _ | refine blk_drew ?_ | refine blk_alloc ?_ _)); refine blk_far ?_ (by have h_ := Kd.R_ne HO_13.out BK414.out (by decide); intro e_; exact h_ (by rw [e_]; rfl)) _; (with_reducible repeat (first | refine blk_drewN ?_ _ | refine blk_drew ?_ | refine blk_alloc ?_ _)); exact BK414.out⟩, ⟨by repeat (first | (with_reducible first | exact HB.out | apply below_alloc | apply pw_below_drewN | apply below_drew1 | refine below_set ?_ GB68.out | refine below_set ?_ GE396.out | refine below_set ?_ GE397.out | refine below_set ?_ GE414.out) | exact HB.out)⟩⟩
         rw [if_neg c63] at H
         have c63b0 : decide (x14_4 < (t415.length : Int)) = false := decide_eq_false c63
         clear c63
         replace H := Option.bind_eq_some_iff.mp H
         obtain ⟨⟨t425, t426⟩, A710, H⟩ := H
         (try dsimp only at H)
         have A71 := Aside0.mk A710
         clear A710
         by_cases c72 : 0 ≤ t425
         rotate_left
         ·rw [if_neg c72] at H
          exact absurd H (by simp)
         rw [if_pos c72] at H
         have c72b0 : decide (0 ≤ t425) = true := decide_eq_true c72
         clear c72
         by_cases c73 : t425 < (l0_1.length : Int)
         rotate_left
         ·rw [if_neg c73] at H
          exact absurd H (by simp)
         rw [if_pos c73] at H
         have c73b0 : decide (t425 < (l0_1.length : Int)) = true := decide_eq_true c73
         clear c73
         by_cases c74 : 0 ≤ x10_3
         rotate_left
         ·rw [if_neg c74] at H
          exact absurd H (by simp)
         rw [if_pos c74] at H
         have c74b0 : decide (0 ≤ x10_3) = true := decide_eq_true c74
         clear c74
         by_cases c75 : x10_3 < (x415001_3.length : Int)
         rotate_left
         ·rw [if_neg c75] at H
          exact absurd H (by simp)
         rw [if_pos c75] at H
         have c75b0 : decide (x10_3 < (x415001_3.length : Int)) = true := decide_eq_true c75
         clear c75
         obtain ⟨y428, hy428⟩ : ∃ y_ : List Int, y_ = (x415001_3.set (x10_3 : Int).toNat (rd l0_1 t425)) := ⟨_, rfl⟩
         replace H : (carouselref5_Turn.l2 k4 l1 x6_3 (wrap64 (x10_3 + 1)) l0_0 l0_1 x415000_3 y428) = some (r1, r2, r3) := by first | (rw [hy428]; with_reducible exact H) | (have H2_ := (Option.bind_some _ _).symm.trans H; rw [hy428]; with_reducible exact H2_) | (have H2_ := (Option.bind_some _ _).symm.trans H; with_reducible exact H2_) | with_reducible exact H | (rw [hy428]; exact H) | exact H
         have Ny428 := Aside0.mk hy428
         clear hy428
         have H' := Aside0.mk H
         clear H
         have hnb77 := NB396_397.out
         have hnc77 := NB397_396.out
         have hnb78 := NB396_414.out
         have hnc78 := NB414_396.out
         have hcz79_0 := zx_ (v := .slice A0_0 l0_0.length c0_0) BK396 0
         have hcz79_1 := zx_ (v := .slice A0_1 l0_1.length c0_1) BK396 1
         have hfz79_0 := blk_frozen BK396.out 0
         have hfz79_1 := blk_frozen BK396.out 1
         obtain ⟨Ao80, co80, eo80⟩ := Kd.R_slice HO_13.out
         subst eo80
         try go_wp2_with (first | ((with_reducible refine gate_callee (f := 58) rfl ?_); refine zg_ (some 114) Try.func58 #[.slice A0_0 l0_0.length c0_0, .slice Ao80 x13_4.length co80] (h := ?_); (with_reducible refine (carouselref5_At.calls k4 _ _ l0_0 _ _ x13_4 t425 t426 _ ?side1 ?side2 ?side3 ?side4 A71.out).mono ?_); (case side1 => exact zk_ (Kd.C_below HR0_0.out HB.out)); (case side2 => exact HC0_0.out); (case side3 => exact zk_ ((Kd.R_reads' HO_13.out).2.2)); (case side4 => exact (Kd.R_reads' HO_13.out).2.1); rintro e w' ⟨rfl, ⟨nd, rfl⟩⟩; refine ⟨_, rfl, ?_⟩; (try (rw [drewN_self wr]; generalize hq_ : World.drewN wr _ = wr; have n0_ : Aside0 (Kd.R (Kd.int .i64) 3 wr w.heap.size (fun k_ => some k_ ≠ (.slice Ao80 x13_4.length co80 : Value).ownBlock ∧ some k_ ≠ (u415000 : Value).ownBlock ∧ some k_ ≠ (.slice Ao43 x6_3.length co43 : Value).ownBlock) (.slice Ao60 t415.length co60) t415) := ⟨by rw [← hq_]; exact (zr_ (Kd.R_mono HO_11.out (fun _ hk => ⟨hk.2.1, ⟨hk.2.2, hk.1⟩⟩)))⟩; have n1_ : Aside0 (Kd.R (Kd.int .i64) 3 wr w.heap.size (fun k_ => some k_ ≠ (.slice Ao60 t415.length co60 : Value).ownBlock ∧ some k_ ≠ (u415000 : Value).ownBlock ∧ some k_ ≠ (.slice Ao43 x6_3.length co43 : Value).ownBlock) (.slice Ao80 x13_4.length co80) x13_4) := ⟨by rw [← hq_]; exact (zr_ (Kd.R_mono HO_13.out (fun _ hk => ⟨hk.2.1, ⟨hk.2.2, hk.1⟩⟩)))⟩; have n2_ : Aside0 (Kd.R (Kd.int .i64) 3 wr w.heap.size (fun k_ => some k_ ≠ (.slice Ao60 t415.length co60 : Value).ownBlock ∧ some k_ ≠ (.slice Ao80 x13_4.length co80 : Value).ownBlock ∧ some k_ ≠ (.slice Ao43 x6_3.length co43 : Value).ownBlock) u415000 x415000_3) := ⟨by rw [← hq_]; exact (zr_ (Kd.R_mono HO_415000.out (fun _ hk => ⟨hk.2.1, ⟨hk.2.2, hk.1⟩⟩)))⟩; have n3_ : Aside0 (Kd.R (Kd.int .i64) 23 wr w.heap.size (fun _ => True) (.slice Ao58 x415001_3.length co58) x415001_3) := ⟨by rw [← hq_]; exact (zr_ HO_415001.out)⟩; have n4_ : Aside0 (Kd.R (Kd.int .i64) 3 wr w.heap.size (fun k_ => some k_ ≠ (.slice Ao60 t415.length co60 : Value).ownBlock ∧ some k_ ≠ (.slice Ao80 x13_4.length co80 : Value).ownBlock ∧ some k_ ≠ (u415000 : Value).ownBlock) (.slice Ao43 x6_3.length co43) x6_3) := ⟨by rw [← hq_]; exact (zr_ HO_6.out)⟩; have n5_ : Aside0 (wr.heap[gb396]? = some (.cells #[.slice A0_0 l0_0.length c0_0, .slice A0_1 l0_1.length c0_1] 27 (0, 0))) := ⟨by rw [← hq_]; exact (zb_ BK396)⟩; have n6_ : Aside0 (wr.heap[gb397]? = some (.cells #[.slice none 0 0, .slice none 0 0] 27 (0, 0))) := ⟨by rw [← hq_]; exact (zb_ BK397)⟩; have n7_ : Aside0 (wr.heap[gb414]? = some (.cells #[u415000, .slice Ao58 x415001_3.length co58] 27 (0, 0))) := ⟨by rw [← hq_]; exact (zb_ BK414)⟩; have n8_ : Aside0 (Below w.heap.size w wr) := ⟨by rw [← hq_]; exact (zw3_ HB GE396 GE397 GE414)⟩; clear HO_11 HO_13 HO_415000 HO_415001 HO_6 BK396 BK397 BK414 HB hq_; have HO_11 := n0_; have HO_13 := n1_; have HO_415000 := n2_; have HO_415001 := n3_; have HO_6 := n4_; have BK396 := n5_; have BK397 := n6_; have BK414 := n7_; have HB := n8_; clear n0_ n1_ n2_ n3_ n4_ n5_ n6_ n7_ n8_; (try (have hcz57_0 := zx_ (v := u415000) BK414 0)); (try (have hcz57_1 := zx_ (v := u415001) BK414 1)); (try (have hfz57_0 := blk_frozen BK414.out 0)); (try (have hfz57_1 := blk_frozen BK414.out 1)); (try (have hcz79_0 := zx_ (v := .slice A0_0 l0_0.length c0_0) BK396 0)); (try (have hcz79_1 := zx_ (v := .slice A0_1 l0_1.length c0_1) BK396 1)); (try (have hfz79_0 := blk_frozen BK396.out 0)); (try (have hfz79_1 := blk_frozen BK396.out 1))))))
         replace HO_6 := Aside0.mk (Kd.R_drew HO_6.out)
         replace HO_11 := Aside0.mk (Kd.R_drew HO_11.out)
         replace HO_13 := Aside0.mk (Kd.R_drew HO_13.out)
         replace HO_415000 := Aside0.mk (Kd.R_drew HO_415000.out)
         replace HO_415001 := Aside0.mk (Kd.R_drew HO_415001.out)
         replace BK396 := Aside0.mk (blk_drew BK396.out)
         replace BK397 := Aside0.mk (blk_drew BK397.out)
         replace BK414 := Aside0.mk (blk_drew BK414.out)
         replace HB := Aside0.mk (below_drew1 HB.out)
         have p427 : 0 ≤ (t425 : Int) := of_decide_eq_true (by first | (with_reducible assumption) | assumption)
         have q427 : t425 < (l0_1.length : Int) := of_decide_eq_true (by first | (with_reducible assumption) | assumption)
         obtain ⟨ad427, e427, hx427_0⟩ := Kd.at_int HR0_1.out t425 p427 q427
         have hw427_0 := hx427_0
         cases e427
         replace hx427_0 := (HB.out.cell (World.block_lt_of_cell? w _ hx427_0)).trans hx427_0
         replace p427 := eq_true p427
         replace q427 := eq_true q427
         have p76 : 0 ≤ (x10_3 : Int) := of_decide_eq_true (by first | (with_reducible assumption) | assumption)
         have q76 : (x10_3 : Int) < ((x415001_3.length : Int) : Int) := of_decide_eq_true (by first | (with_reducible assumption) | assumption)
         obtain ⟨go76, co76, eo76, gb76, gl76, cl76, HG76⟩ := Kd.R_form HO_415001.out (by omega)
         (first | cases eo76 | (injection eo76 with ea_ en_ ec_; (first | subst ea_ | (injection ea_ with ea_; subst ea_)); subst ec_; clear en_))
         have GB76 := Aside0.mk gb76
         have GG76 := Aside0.mk HG76
         clear gb76 gl76 HG76
         obtain ⟨hx76_0, hf76_0⟩ := Kd.R_celln 0 HO_415001.out (x10_3 : Int) p76 q76
         replace p76 := eq_true p76
         replace q76 := eq_true q76
         have HP82 := Kd.R_putn HO_415001.out (x10_3 : Int) (rd l0_1 t425)
         rw [← Ny428.out] at HP82
         have HQ82 := Aside0.mk HP82
         clear HP82
         refine start_ (n := 10) (S := fun w' => w'.cell? ⟨gb414, 0, none⟩ = some (u415000) ∧ w'.cell? ⟨gb414, 1, none⟩ = some (.slice (some ⟨go76, 0, none⟩) x415001_3.length co58) ∧ w'.cell? ⟨gb396, 0, none⟩ = some (.slice A0_0 l0_0.length c0_0) ∧ w'.cell? ⟨gb396, 1, none⟩ = some (.slice (some ad427) l0_1.length c0_1) ∧ w'.cell? (ad427.add (t425).toNat) = some (.int .i64 (rd l0_1 t425))) (ds := [9]) #[false, false, false, false, false, false, false, false, false, false] (by kernel_rfl) rfl rfl ⟨(blk_cell BK414.out 0).trans rfl, (blk_cell BK414.out 1).trans rfl, (blk_cell BK396.out 0).trans rfl, (blk_cell BK396.out 1).trans rfl, ((HB.out.cell (World.block_lt_of_cell? w _ hw427_0)).trans hw427_0)⟩ (fun hHeld => ?_); refine with_tabW carouselref5_Turn.tab26 carouselref5_Turn.bits26 (fun HT_ HW_ => ?_)
         generalize wr.drew = w81 at HO_6 HO_11 HO_13 HO_415000 HO_415001 BK396 BK397 BK414 HB GG76 HQ82 hf76_0 hx427_0 hx76_0 hHeld ⊢
         refine yp_ ?_ 0 117
         refine yp_ ?_ 2 119
         refine yp_ ?_ 3 120
         refine yp_ ?_ 5 122
         refine yt5_ ?_ 1 118
         refine yt5_ ?_ 4 121
         refine yp_ ?_ 6 123
         refine yt5_ ?_ 7 124
         refine yp_ ?_ 8 125
         refine yl_ 9 none (fun K hK => ?_)
         refine skip_ (w1 := ?_) (by rfl) rfl ?_ ?_
         rotate_left
         ·go_simp
          rfl
         refine hK.out _ _ ?_
         clear hK K
         refine done_ (done_of HT_.out (by kernel_rfl)) ?_
         try go_wp2
         (try simp only [← hl6_3])
         go_roundg k4
         case measure => have := HJ2.out; have := HK2.out; have := HK3.out; have := HK4.out; omega
         case rel => exact ⟨(x6_3), (wrap64 (x10_3 + 1)), (x415000_3), (y428), (u415000), (.slice (some ⟨go76, 0, none⟩) x415001_3.length co58), z1_, H', ⟨by have := HJ2.out; have := HK2.out; have := HK3.out; have := HK4.out; omega⟩, ⟨by (try simp only [hl6_3]); (with_reducible repeat (first | apply Kd.R_alloc | apply Kd.R_drewN | apply Kd.R_drew)); exact Kd.R_mono (Kd.R_far (p := ⟨go76, (x10_3 : Int).toNat, none⟩) (Kd.R_types HO_6.out GG76.out (by decide)) (fun _ hk => hk.2) (.int .i64 (rd l0_1 t425))) (fun _ hk => hk.1.2.2)⟩, ⟨by (try simp only [hl6_3]); (with_reducible repeat (first | apply Kd.R_alloc | apply Kd.R_drewN | apply Kd.R_drew)); exact Kd.R_mono (Kd.R_far (p := ⟨go76, (x10_3 : Int).toNat, none⟩) (Kd.R_types HO_415000.out GG76.out (by decide)) (fun _ hk => hk.2) (.int .i64 (rd l0_1 t425))) (fun _ hk => by first | exact hk.1.1 | exact hk.1.2.2 | exact hk.1.2.1)⟩, ⟨by (try simp only [hl6_3]); (with_reducible repeat (first | apply Kd.R_alloc | apply Kd.R_drewN | apply Kd.R_drew)); exact HQ82.out⟩, ⟨by (try simp only [hl6_3]); (with_reducible repeat (first | refine blk_drewN ?_ _ | refine blk_drew ?_ | refine blk_alloc ?_ _)); refine blk_far ?_ (by have h_ := Kd.R_ne HO_415001.out BK396.out (by decide); intro e_; exact h_ (by rw [e_]; rfl)) _; (with_reducible repeat (first | refine blk_drewN ?_ _ | refine blk_drew ?_ | refine blk_alloc ?_ _)); exact BK396.out⟩, ⟨by (try simp only [hl6_3]); (with_reducible repeat (first | refine blk_drewN ?_ _ | refine blk_drew ?_ | refine blk_alloc ?_ _)); refine blk_far ?_ (by have h_ := Kd.R_ne HO_415001.out BK397.out (by decide); intro e_; exact h_ (by rw [e_]; rfl)) _; (with_reducible repeat (first | refine blk_drewN ?_ _ | refine blk_drew ?_ | refine blk_alloc ?_ _)); exact BK397.out⟩, ⟨by (try simp only [hl6_3]); (with_reducible repeat (first | refine blk_drewN ?_ _ | refine blk_drew ?_ | refine blk_alloc ?_ _)); refine blk_far ?_ (by have h_ := Kd.R_ne HO_415001.out BK414.out (by decide); intro e_; exact h_ (by rw [e_]; rfl)) _; (with_reducible repeat (first | refine blk_drewN ?_ _ | refine blk_drew ?_ | refine blk_alloc ?_ _)); exact BK414.out⟩, ⟨by repeat (first | (with_reducible first | exact HB.out | apply below_alloc | apply pw_below_drewN | apply below_drew1 | refine below_set ?_ GB76.out | refine below_set ?_ GE396.out | refine below_set ?_ GE397.out | refine below_set ?_ GE414.out) | exact HB.out)⟩⟩

end Go.Proofs.Ytbdhabpplidgfaa.PTensTurns
