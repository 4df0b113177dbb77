/- The functions that the law ConvPools reaches, as Lean functions, and that each call of the Go function does what its Lean function says, wherever that one answers. Written by a program of mine over the print of the kit; Lean checks it. -/
import Derived.Test.YtcipfhlcgnomaaaPConvPoolsx0
import Derived.Test.YtcipfhlcgnomaaaPConvPoolsx9
namespace Go.Proofs.Ytcipfhlcgnomaaa.PConvPools
open Go.RowKit Go.Proofs.YtcipfhlcgnomaaaW.PrintWords Go.Proofs.YtcipfhlcgnomaaaW.PrintLast Go.Proofs.YtcipfhlcgnomaaaW.PrintMore
attribute [local go_sem] max2_int min2_int max_two min_two max_three min_three max_four min_four   -- for this text's walks alone
set_option linter.unusedVariables false
set_option linter.unusedSimpArgs false

/-! ### carouselref5_Pool: function 20 -/
mutual
def carouselref5_Pool.j0 : Nat → Int → Bool → List Int → List Int → Option (List Int × List Int × List Int × Int)
 | 0, _, _, _, _ => none
 | k + 1, x1, x34, x305000, x305001 => if x34 = true then (some (([] : List Int), ([] : List Int), ([] : List Int), 1)) else (if 0 < (x305000.length : Int) then (if 1 < (x305000.length : Int) then (if x1 = 0 then (none) else ((carouselref5_New.f k (([rd x305000 0, wrap64 (Int.tdiv (rd x305000 1) x1)] : List Int)) 0).bind fun bt313 => (carouselref5_Pool.l0 k x1 (rd x305000 0) (rd x305000 1) (wrap64 (Int.tdiv (rd x305000 1) x1)) ([] : List Int) 0 x305000 x305001 bt313.1 bt313.2))) else (none)) else (none))
def carouselref5_Pool.l0 : Nat → Int → Int → Int → Int → List Int → Int → List Int → List Int → List Int → List Int → Option (List Int × List Int × List Int × Int)
 | 0, _, _, _, _, _, _, _, _, _, _ => none
 | k + 1, x1, x7, x8, x9, x11, x12, x305000, x305001, x320000, x320001 => if x12 < x7 then (carouselref5_Pool.l1 k x1 x7 x8 x9 x11 x12 0 x305000 x305001 x320000 x320001) else (some (x320000, x320001, x11, 0))
def carouselref5_Pool.l1 : Nat → Int → Int → Int → Int → List Int → Int → Int → List Int → List Int → List Int → List Int → Option (List Int × List Int × List Int × Int)
 | 0, _, _, _, _, _, _, _, _, _, _, _ => none
 | k + 1, x1, x7, x8, x9, x11, x12, x13, x305000, x305001, x320000, x320001 => if x13 < x9 then (carouselref5_Pool.l2 k x1 x7 x8 x9 x11 x12 x13 (wrap64 ((wrap64 (x12 * x8)) + (wrap64 (x13 * x1)))) 1 x305000 x305001 x320000 x320001) else (carouselref5_Pool.l0 k x1 x7 x8 x9 x11 (wrap64 (x12 + 1)) x305000 x305001 x320000 x320001)
def carouselref5_Pool.l2 : Nat → Int → Int → Int → Int → List Int → Int → Int → Int → Int → List Int → List Int → List Int → List Int → Option (List Int × List Int × List Int × Int)
 | 0, _, _, _, _, _, _, _, _, _, _, _, _, _ => none
 | k + 1, x1, x7, x8, x9, x11, x12, x13, x14, x15, x305000, x305001, x320000, x320001 => if x15 < x1 then (if 0 ≤ (wrap64 ((wrap64 ((wrap64 (x12 * x8)) + (wrap64 (x13 * x1)))) + x15)) then (if (wrap64 ((wrap64 ((wrap64 (x12 * x8)) + (wrap64 (x13 * x1)))) + x15)) < (x305001.length : Int) then (if 0 ≤ x14 then (if x14 < (x305001.length : Int) then (if (rd x305001 (wrap64 ((wrap64 ((wrap64 (x12 * x8)) + (wrap64 (x13 * x1)))) + x15))) > (rd x305001 x14) then (carouselref5_Pool.l2 k x1 x7 x8 x9 x11 x12 x13 (wrap64 ((wrap64 ((wrap64 (x12 * x8)) + (wrap64 (x13 * x1)))) + x15)) (wrap64 (x15 + 1)) x305000 x305001 x320000 x320001) else (carouselref5_Pool.l2 k x1 x7 x8 x9 x11 x12 x13 x14 (wrap64 (x15 + 1)) x305000 x305001 x320000 x320001)) else (none)) else (none)) else (none)) else (none)) else (if 0 ≤ x14 then (if x14 < (x305001.length : Int) then (if 0 ≤ (wrap64 ((wrap64 (x12 * x9)) + x13)) then (if (wrap64 ((wrap64 (x12 * x9)) + x13)) < (x320001.length : Int) then (if x11.length < 17592186044416 then (carouselref5_Pool.l1 k x1 x7 x8 x9 (x11 ++ [x14]) x12 (wrap64 (x13 + 1)) x305000 x305001 x320000 (x320001.set ((wrap64 ((wrap64 (x12 * x9)) + x13)) : Int).toNat (rd x305001 x14))) else (none)) else (none)) else (none)) else (none)) else (none))
end
def carouselref5_Pool.f (k : Nat) (l0_0 : List Int) (l0_1 : List Int) (a1 : Int) : Option (List Int × List Int × List Int × Int) := (carouselref5_Is.f k l0_0 l0_1).bind fun t306 => (if t306 = true then (if (l0_0.length : Int) = 2 then (if a1 < 1 then (carouselref5_Pool.j0 k a1 true l0_0 l0_1) else (if 1 < (l0_0.length : Int) then (carouselref5_Pool.j0 k a1 (decide (a1 > (rd l0_0 1))) l0_0 l0_1) else (none))) else (some (([] : List Int), ([] : List Int), ([] : List Int), 4))) else (some (([] : List Int), ([] : List Int), ([] : List Int), 1)))
theorem carouselref5_Pool.mono_l : ∀ k, (∀ y0 y1 y2 y3, LeO (carouselref5_Pool.j0 k y0 y1 y2 y3) (carouselref5_Pool.j0 (k + 1) y0 y1 y2 y3)) ∧ (∀ y0 y1 y2 y3 y4 y5 y6 y7 y8 y9, LeO (carouselref5_Pool.l0 k y0 y1 y2 y3 y4 y5 y6 y7 y8 y9) (carouselref5_Pool.l0 (k + 1) y0 y1 y2 y3 y4 y5 y6 y7 y8 y9)) ∧ (∀ y0 y1 y2 y3 y4 y5 y6 y7 y8 y9 y10, LeO (carouselref5_Pool.l1 k y0 y1 y2 y3 y4 y5 y6 y7 y8 y9 y10) (carouselref5_Pool.l1 (k + 1) y0 y1 y2 y3 y4 y5 y6 y7 y8 y9 y10)) ∧ (∀ y0 y1 y2 y3 y4 y5 y6 y7 y8 y9 y10 y11 y12, LeO (carouselref5_Pool.l2 k y0 y1 y2 y3 y4 y5 y6 y7 y8 y9 y10 y11 y12) (carouselref5_Pool.l2 (k + 1) y0 y1 y2 y3 y4 y5 y6 y7 y8 y9 y10 y11 y12))
 | 0 => ⟨fun _ _ _ _ r h => by simp [carouselref5_Pool.j0] at h, fun _ _ _ _ _ _ _ _ _ _ r h => by simp [carouselref5_Pool.l0] at h, fun _ _ _ _ _ _ _ _ _ _ _ r h => by simp [carouselref5_Pool.l1] at h, fun _ _ _ _ _ _ _ _ _ _ _ _ _ r h => by simp [carouselref5_Pool.l2] at h⟩
 | k + 1 => by
  obtain ⟨ih0, ih1, ih2, ih3⟩ := carouselref5_Pool.mono_l k
  refine ⟨?_, ?_, ?_, ?_⟩
  ·intro y0 y1 y2 y3
   unfold carouselref5_Pool.j0
   repeat' first
   | (with_reducible exact ih0 _ _ _ _)
   | (with_reducible exact ih1 _ _ _ _ _ _ _ _ _ _)
   | (with_reducible exact ih2 _ _ _ _ _ _ _ _ _ _ _)
   | (with_reducible exact ih3 _ _ _ _ _ _ _ _ _ _ _ _ _)
   | (with_reducible exact carouselref5_New.mono _ _ _)
   | (with_reducible exact LeO.refl _)
   | (with_reducible exact LeO.none _)
   | (with_reducible refine LeO.ite ?_ ?_)
   | (with_reducible refine LeO.bind ?_ (fun _ => ?_))
   | exact ih0 _ _ _ _
   | exact ih1 _ _ _ _ _ _ _ _ _ _
   | exact ih2 _ _ _ _ _ _ _ _ _ _ _
   | exact ih3 _ _ _ _ _ _ _ _ _ _ _ _ _
   | exact carouselref5_New.mono _ _ _
   | exact LeO.none _
   | refine LeO.ite ?_ ?_
   | refine LeO.bind ?_ (fun _ => ?_)
  ·intro y0 y1 y2 y3 y4 y5 y6 y7 y8 y9
   unfold carouselref5_Pool.l0
   repeat' first
   | (with_reducible exact ih0 _ _ _ _)
   | (with_reducible exact ih1 _ _ _ _ _ _ _ _ _ _)
   | (with_reducible exact ih2 _ _ _ _ _ _ _ _ _ _ _)
   | (with_reducible exact ih3 _ _ _ _ _ _ _ _ _ _ _ _ _)
   | (with_reducible exact LeO.refl _)
   | (with_reducible exact LeO.none _)
   | (with_reducible refine LeO.ite ?_ ?_)
   | (with_reducible refine LeO.bind ?_ (fun _ => ?_))
   | exact ih0 _ _ _ _
   | exact ih1 _ _ _ _ _ _ _ _ _ _
   | exact ih2 _ _ _ _ _ _ _ _ _ _ _
   | exact ih3 _ _ _ _ _ _ _ _ _ _ _ _ _
   | exact LeO.none _
   | refine LeO.ite ?_ ?_
   | refine LeO.bind ?_ (fun _ => ?_)
  ·intro y0 y1 y2 y3 y4 y5 y6 y7 y8 y9 y10
   unfold carouselref5_Pool.l1
   repeat' first
   | (with_reducible exact ih0 _ _ _ _)
   | (with_reducible exact ih1 _ _ _ _ _ _ _ _ _ _)
   | (with_reducible exact ih2 _ _ _ _ _ _ _ _ _ _ _)
   | (with_reducible exact ih3 _ _ _ _ _ _ _ _ _ _ _ _ _)
   | (with_reducible exact LeO.refl _)
   | (with_reducible exact LeO.none _)
   | (with_reducible refine LeO.ite ?_ ?_)
   | (with_reducible refine LeO.bind ?_ (fun _ => ?_))
   | exact ih0 _ _ _ _
   | exact ih1 _ _ _ _ _ _ _ _ _ _
   | exact ih2 _ _ _ _ _ _ _ _ _ _ _
   | exact ih3 _ _ _ _ _ _ _ _ _ _ _ _ _
   | exact LeO.none _
   | refine LeO.ite ?_ ?_
   | refine LeO.bind ?_ (fun _ => ?_)
  ·intro y0 y1 y2 y3 y4 y5 y6 y7 y8 y9 y10 y11 y12
   unfold carouselref5_Pool.l2
   repeat' first
   | (with_reducible exact ih0 _ _ _ _)
   | (with_reducible exact ih1 _ _ _ _ _ _ _ _ _ _)
   | (with_reducible exact ih2 _ _ _ _ _ _ _ _ _ _ _)
   | (with_reducible exact ih3 _ _ _ _ _ _ _ _ _ _ _ _ _)
   | (with_reducible exact LeO.refl _)
   | (with_reducible exact LeO.none _)
   | (with_reducible refine LeO.ite ?_ ?_)
   | (with_reducible refine LeO.bind ?_ (fun _ => ?_))
   | exact ih0 _ _ _ _
   | exact ih1 _ _ _ _ _ _ _ _ _ _
   | exact ih2 _ _ _ _ _ _ _ _ _ _ _
   | exact ih3 _ _ _ _ _ _ _ _ _ _ _ _ _
   | exact LeO.none _
   | refine LeO.ite ?_ ?_
   | refine LeO.bind ?_ (fun _ => ?_)
theorem carouselref5_Pool.mono : ∀ a0 a1 a2 k, LeO (carouselref5_Pool.f k a0 a1 a2) (carouselref5_Pool.f (k + 1) a0 a1 a2) := by
 intro a0 a1 a2 k
 obtain ⟨ih0, ih1, ih2, ih3⟩ := carouselref5_Pool.mono_l k
 unfold carouselref5_Pool.f
 repeat' first
   | (with_reducible exact ih0 _ _ _ _)
   | (with_reducible exact ih1 _ _ _ _ _ _ _ _ _ _)
   | (with_reducible exact ih2 _ _ _ _ _ _ _ _ _ _ _)
   | (with_reducible exact ih3 _ _ _ _ _ _ _ _ _ _ _ _ _)
   | (with_reducible exact carouselref5_Is.mono _ _ _)
   | (with_reducible exact LeO.refl _)
   | (with_reducible exact LeO.none _)
   | (with_reducible refine LeO.ite ?_ ?_)
   | (with_reducible refine LeO.bind ?_ (fun _ => ?_))
   | exact ih0 _ _ _ _
   | exact ih1 _ _ _ _ _ _ _ _ _ _
   | exact ih2 _ _ _ _ _ _ _ _ _ _ _
   | exact ih3 _ _ _ _ _ _ _ _ _ _ _ _ _
   | exact carouselref5_Is.mono _ _ _
   | exact LeO.none _
   | refine LeO.ite ?_ ?_
   | refine LeO.bind ?_ (fun _ => ?_)
def carouselref5_Pool.T7 : Bool × List (List Nat × List Nat) := (true, [([], []), ([0], [0]), ([1], [1]), ([2], [2]), ([], []), ([4], [4]), ([5], [5]), ([6], [6]), ([3, 0, 1, 2, 3], [3]), ([7, 8, 0, 1, 2, 3, 4, 5, 6, 7, 8], [7])])
def carouselref5_Pool.B7 : List Nat := [0, 1, 3, 7, 0, 16, 48, 112, 15, 511]
theorem carouselref5_Pool.tab7 : rtab .any (opsOf Try.f20 7) = carouselref5_Pool.T7 := by kernel_rfl
theorem carouselref5_Pool.bits7 : waitsOk carouselref5_Pool.T7.2 carouselref5_Pool.B7 = true := by kernel_rfl
def carouselref5_Pool.T21 : Bool × List (List Nat × List Nat) := (true, [([], []), ([0], [0]), ([], []), ([], []), ([2, 3], [2, 3]), ([], []), ([], []), ([5, 6], [5, 6]), ([4, 7], [4, 7]), ([], []), ([8, 9], [8, 9]), ([1, 10], [1, 10]), ([11], [11]), ([], []), ([13], [13]), ([], []), ([14, 15], [14, 15]), ([16], [16]), ([12, 17], [12, 17])])
def carouselref5_Pool.B21 : List Nat := [0, 1, 0, 0, 12, 0, 0, 96, 252, 0, 1020, 2047, 4095, 0, 8192, 0, 57344, 122880, 262143]
theorem carouselref5_Pool.tab21 : rtab .any (opsOf Try.f20 21) = carouselref5_Pool.T21 := by kernel_rfl
theorem carouselref5_Pool.bits21 : waitsOk carouselref5_Pool.T21.2 carouselref5_Pool.B21 = true := by kernel_rfl
def carouselref5_Pool.T23 : Bool × List (List Nat × List Nat) := (true, [([], []), ([0], [0]), ([], []), ([], []), ([2, 3], [2, 3]), ([], []), ([4, 5], [4, 5]), ([], []), ([7], [7]), ([], []), ([8, 9], [8, 9]), ([10], [10]), ([1, 6, 0, 1, 2, 3, 4, 5, 6, 7, 8, 9, 10, 11], [1, 6]), ([12, 11, 0, 1, 2, 3, 4, 5, 6, 7, 8, 9, 10, 11], [11, 12])])
def carouselref5_Pool.B23 : List Nat := [0, 1, 0, 0, 12, 0, 60, 0, 128, 0, 896, 1920, 4095, 8191]
theorem carouselref5_Pool.tab23 : rtab .any (opsOf Try.f20 23) = carouselref5_Pool.T23 := by kernel_rfl
theorem carouselref5_Pool.bits23 : waitsOk carouselref5_Pool.T23.2 carouselref5_Pool.B23 = true := by kernel_rfl
set_option maxHeartbeats 8000000 in
set_option maxRecDepth 100000 in
theorem carouselref5_Pool.calls (k : Nat) (A0_0 : Option Addr) (c0_0 : Nat) (l0_0 : List Int) (A0_1 : Option Addr) (c0_1 : Nat) (l0_1 : List Int) (a1 : Int) (r1 : List Int) (r2 : List Int) (r3 : List Int) (r4 : Int) (w : World) (hr0_0 : Kd.C (Kd.int .i64) w A0_0 l0_0.length l0_0) (hc0_0 : l0_0.length ≤ c0_0) (hr0_1 : Kd.C (Kd.int .i64) w A0_1 l0_1.length l0_1) (hc0_1 : l0_1.length ≤ c0_1) (h : carouselref5_Pool.f k l0_0 l0_1 a1 = some (r1, r2, r3, r4)) :
  Calls Try.prog 20 #[.agg #[.slice A0_0 l0_0.length c0_0, .slice A0_1 l0_1.length c0_1], .int .i64 a1] w fun e w' => ∃ v0_ v1_ v2_ : Value, e = .returned (.tuple #[.agg #[v0_, v1_], v2_, .int .i64 r4]) ∧ Kd.R (Kd.int .i64) 3 w' w.heap.size (fun k_ => some k_ ≠ (v2_ : Value).ownBlock) v0_ r1 ∧ Kd.R (Kd.int .i64) 33 w' w.heap.size (fun _ => True) v1_ r2 ∧ Kd.R (Kd.int .i64) 3 w' w.heap.size (fun k_ => some k_ ≠ (v0_ : Value).ownBlock) v2_ r3 ∧ Below w.heap.size w w' := by
 have hu25 := Try.underlying25
 have HR0_0 := Aside0.mk hr0_0
 have HC0_0 := Aside0.mk hc0_0
 clear hr0_0 hc0_0
 have HR0_1 := Aside0.mk hr0_1
 have HC0_1 := Aside0.mk hc0_1
 clear hr0_1 hc0_1
 have HB := Aside0.mk (Below.refl w.heap.size w)
 have H : ((carouselref5_Is.f k l0_0 l0_1).bind fun t306 => (if t306 = true then (if (l0_0.length : Int) = 2 then (if a1 < 1 then (carouselref5_Pool.j0 k a1 true l0_0 l0_1) else (if 1 < (l0_0.length : Int) then (carouselref5_Pool.j0 k a1 (decide (a1 > (rd l0_0 1))) l0_0 l0_1) else (none))) else (some (([] : List Int), ([] : List Int), ([] : List Int), 4))) else (some (([] : List Int), ([] : List Int), ([] : List Int), 1)))) = some (r1, r2, r3, r4) := h
 clear h
 replace H := Option.bind_eq_some_iff.mp H
 obtain ⟨t306, A30, H⟩ := H
 (try dsimp only at H)
 have A3 := Aside0.mk A30
 clear A30
 by_cases c4 : t306 = true
 ·subst c4
  have H1 := H
  rw [if_pos rfl] at H1
  clear H
  have H := H1
  clear H1
  by_cases c5 : (l0_0.length : Int) = 2
  ·rw [if_pos c5] at H
   have c5b0 : ((l0_0.length : Int) == 2) = true := beq_iff_eq.mpr c5
   have c5b1 : ((l0_0.length : Int) != 2) = false := bne_eq_false_iff_eq.mpr c5
   clear c5
   have HC6 := Aside0.mk H
   clear H
   go_enter Try.func20, Try.ntmps20
   go_upto_region 5 with (first | ((with_reducible refine gate_dst (N := 2) rfl ?_); refine box_event ?hg (N := 2) ?hd (cs := #[.slice A0_0 l0_0.length c0_0, .slice A0_1 l0_1.length c0_1]) (t := 25) ?hr ?_; (case hd => rfl); (case hg => rfl); (case hr => first | (go_simp; done) | (go_simp; rfl)); intro gb304 hg w7 hbox hb; have BK304 := Aside0.mk (hbox); have GW304 := Aside0.mk (zs_ hg (zw0_ HB)); have GE304 := Aside0.mk (zs_ hg (zw0_ HB)); replace HB := Aside0.mk (below_step (zw0_ HB) hb); clear hb hbox hg) | ((with_reducible refine gate_dst (N := 4) rfl ?_); refine box_event ?hg (N := 4) ?hd (cs := #[.slice none 0 0, .slice none 0 0]) (t := 25) ?hr ?_; (case hd => rfl); (case hg => rfl); (case hr => first | (go_simp; done) | (go_simp; rfl)); intro gb305 hg w8 hbox hb; have BK305 := Aside0.mk (hbox); have GW305 := Aside0.mk (zs_ hg (zw1_ HB GE304)); have GE305 := Aside0.mk (zs_ hg (zw1_ HB GE304)); replace HB := Aside0.mk (below_step (zw1_ HB GE304) hb); have NB304_305 := Aside0.mk (zn_ hg BK304); have NB305_304 := Aside0.mk (zm_ hg BK304); replace BK304 := Aside0.mk (zl_ BK304 hb); clear hb hbox hg; have hnb9 := NB304_305.out; have hnc9 := NB305_304.out; have hcz10_0 := zx_ (v := .slice A0_0 l0_0.length c0_0) BK304 0; have hcz10_1 := zx_ (v := .slice A0_1 l0_1.length c0_1) BK304 1; have hfz10_0 := blk_frozen BK304.out 0; have hfz10_1 := blk_frozen BK304.out 1) | ((with_reducible refine gate_callee (f := 32) rfl ?_); refine zg_ (some 17) Try.func32 #[.agg #[.slice A0_0 l0_0.length c0_0, .slice A0_1 l0_1.length c0_1]] (h := ?_); (with_reducible refine (carouselref5_Is.calls k _ _ l0_0 _ _ l0_1 true _ ?side1 ?side2 ?side3 ?side4 A3.out).mono ?_); (case side1 => exact zk_ (Kd.C_below HR0_0.out HB.out)); (case side2 => exact HC0_0.out); (case side3 => exact zk_ (Kd.C_below HR0_1.out HB.out)); (case side4 => exact HC0_1.out); rintro e w11 ⟨rfl, hb⟩; refine ⟨_, rfl, ?_⟩; replace BK304 := Aside0.mk (zl_ BK304 hb); replace BK305 := Aside0.mk (zl_ BK305 hb); replace HB := Aside0.mk (below_step (zw2_ HB GE304 GE305) hb); (try clear hb); have hcz12_0 := zx_ (v := .slice A0_0 l0_0.length c0_0) BK304 0; have hcz12_1 := zx_ (v := .slice A0_1 l0_1.length c0_1) BK304 1; have hfz12_0 := blk_frozen BK304.out 0; have hfz12_1 := blk_frozen BK304.out 1))
   (try simp only [Act.put, List.setIfInBounds_toArray, List.set_cons_zero, List.set_cons_succ])
   go_cut [34] (fun v34 wc => ∃ (kq : Nat) (x34_5 : Bool), v34 = .bool x34_5 ∧ Aside0 (carouselref5_Pool.j0 kq a1 x34_5 l0_0 l0_1 = some (r1, r2, r3, r4)) ∧ Aside0 (kq ≤ k) ∧ Aside0 (wc.heap[gb304]? = some (.cells #[(.slice A0_0 l0_0.length c0_0), (.slice A0_1 l0_1.length c0_1)] 25 (0, 0))) ∧ Aside0 (wc.heap[gb305]? = some (.cells #[(.slice none 0 0), (.slice none 0 0)] 25 (0, 0))) ∧ Aside0 (Below w.heap.size w wc))
   case first =>
    have H := HC6.out
    clear HC6
    by_cases c13 : a1 < 1
    ·rw [if_pos c13] at H
     have c13b0 : decide (a1 < 1) = true := decide_eq_true c13
     clear c13
     (first | rw [c13b0] | (simp only [i64_w, i32_w]; rw [c13b0]) | skip)
     have H' := Aside0.mk H
     clear H
     go_wp2
     go_meet
     case rel => exact ⟨_, (true), (by first | rfl | (simp; done) | (simp [*]; done)), H', ⟨by first | omega | exact Nat.le_refl _⟩, ⟨zb_ BK304⟩, ⟨zb_ BK305⟩, ⟨zw2_ HB GE304 GE305⟩⟩
    ·rw [if_neg c13] at H
     have c13b0 : decide (a1 < 1) = false := decide_eq_false c13
     clear c13
     (first | rw [c13b0] | (simp only [i64_w, i32_w]; rw [c13b0]) | skip)
     by_cases c14 : 1 < (l0_0.length : Int)
     ·rw [if_pos c14] at H
      have c14b0 : decide (1 < (l0_0.length : Int)) = true := decide_eq_true c14
      have c14b1 : decide (1 < l0_0.length) = true := decide_eq_true (by omega)
      clear c14
      have H' := Aside0.mk H
      clear H
      have hnb15 := NB304_305.out
      have hnc15 := NB305_304.out
      have hcz16_0 := zx_ (v := .slice A0_0 l0_0.length c0_0) BK304 0
      have hcz16_1 := zx_ (v := .slice A0_1 l0_1.length c0_1) BK304 1
      have hfz16_0 := blk_frozen BK304.out 0
      have hfz16_1 := blk_frozen BK304.out 1
      have p307 : 0 ≤ (1 : Int) := (by omega)
      have q307 : 1 < (l0_0.length : Int) := of_decide_eq_true (by first | (with_reducible assumption) | assumption)
      obtain ⟨ad307, e307, hx307_0⟩ := Kd.at_int HR0_0.out 1 p307 q307
      cases e307
      (try simp only [show (1 : Int).toNat = 1 from rfl, Nat.reduceMul, Nat.reduceEqDiff, Go.Addr.add, ↓reduceIte] at hx307_0)
      have qi307 : (1 < l0_0.length) = True := eq_true (by omega)
      (try rw [show ((1 : Int)).toNat = 1 from rfl] at hx307_0)
      replace hx307_0 := (HB.out.cell (World.block_lt_of_cell? w _ hx307_0)).trans hx307_0
      replace p307 := eq_true p307
      replace q307 := eq_true q307
      go_wp2
      go_meet
      case rel => exact ⟨_, (decide (a1 > (rd l0_0 1))), (by first | rfl | (simp; done) | (simp [*]; done)), H', ⟨by first | omega | exact Nat.le_refl _⟩, ⟨zb_ BK304⟩, ⟨zb_ BK305⟩, ⟨zw2_ HB GE304 GE305⟩⟩
     ·rw [if_neg c14] at H
      exact absurd H (by simp)
   case rest =>
    clear HC6
    try clear c1
    try clear c2
    try clear p2
    try clear c3
    try clear p3
    try clear q3
    try clear hx3
    try clear qi3
    try clear c4
    try clear c5
    try clear c5b0
    try clear c5b1
    try clear c9
    try clear c13
    try clear c13b0
    try clear c14
    try clear c14b0
    try clear c14b1
    try clear c15
    try clear hcz10_0
    try clear hcz10_1
    try clear hcz12_0
    try clear hcz12_1
    try clear hcz16_0
    try clear hcz16_1
    try clear hfz10_0
    try clear hfz10_1
    try clear hfz12_0
    try clear hfz12_1
    try clear hfz16_0
    try clear hfz16_1
    try clear hx307_0
    try clear p307
    try clear q307
    obtain ⟨kq, x34_5, rfl, HA, HJ5, BK304, BK305, HB⟩ := hcut
    cases kq with
    | zero => exact absurd HA.out (by simp [carouselref5_Pool.j0])
    | succ kj5 =>
     have H := HA.out
     clear HA
     simp only [carouselref5_Pool.j0] at H
     by_cases c17 : x34_5 = true
     ·subst c17
      have H1 : (some (([] : List Int), ([] : List Int), ([] : List Int), 1)) = some (r1, r2, r3, r4) := by rw [if_pos rfl] at H; exact H
      clear H
      have H := H1
      clear H1
      simp only [Option.some.injEq, Prod.mk.injEq] at H
      obtain ⟨rfl, rfl, rfl, rfl⟩ := H
      have hnb18 := NB305_304.out
      have hnc18 := NB304_305.out
      have hcz19_0 := zx_ (v := .slice none 0 0) BK305 0
      have hcz19_1 := zx_ (v := .slice none 0 0) BK305 1
      have hfz19_0 := blk_frozen BK305.out 0
      have hfz19_1 := blk_frozen BK305.out 1
      go_wp2
      refine bodyPost_ret (results_ctt rfl _ _ gb305 25 #[.slice none 0 0, .slice none 0 0] (0, 0) _ rfl (by (with_reducible repeat (first | refine blk_drewN ?_ _ | refine blk_drew ?_ | refine blk_alloc ?_ _)); refine blk_put (cs := #[.slice none 0 0, .slice none 0 0]) ?_ 1 _ rfl; (with_reducible repeat (first | refine blk_drewN ?_ _ | refine blk_drew ?_ | refine blk_alloc ?_ _)); refine blk_put (cs := #[.slice none 0 0, .slice none 0 0]) ?_ 0 _ rfl; (with_reducible repeat (first | refine blk_drewN ?_ _ | refine blk_drew ?_ | refine blk_alloc ?_ _)); exact BK305.out) Try.underlying25 rfl (by kernel_rfl)) rfl ?_
      exact ⟨_, _, _, by first | rfl | (simp [errW_none, errW_some] <;> rfl) | (simp [*, errW_none, errW_some] <;> rfl), by first | exact Kd.R_nil _ _ _ _ _ | exact Kd.N_nil _ _ _ _ _ | exact Kd.V_nil _ _ _ _ _ | exact Kd.Q_nil _ _ _ _ _ | exact Kd.S_nil _ _ _ _ _, by first | exact Kd.R_nil _ _ _ _ _ | exact Kd.N_nil _ _ _ _ _ | exact Kd.V_nil _ _ _ _ _ | exact Kd.Q_nil _ _ _ _ _ | exact Kd.S_nil _ _ _ _ _, by first | exact Kd.R_nil _ _ _ _ _ | exact Kd.N_nil _ _ _ _ _ | exact Kd.V_nil _ _ _ _ _ | exact Kd.Q_nil _ _ _ _ _ | exact Kd.S_nil _ _ _ _ _, zw2_ HB GE304 GE305⟩
     ·replace c17 := Bool.eq_false_iff.mpr c17
      subst c17
      have H1 := H
      rw [if_neg (show ¬ (false = true) by decide)] at H1
      clear H
      have H := H1
      clear H1
      by_cases c20 : 0 < (l0_0.length : Int)
      ·rw [if_pos c20] at H
       have c20b0 : decide (0 < (l0_0.length : Int)) = true := decide_eq_true c20
       have c20b1 : decide (0 < l0_0.length) = true := decide_eq_true (by omega)
       clear c20
       by_cases c21 : 1 < (l0_0.length : Int)
       ·rw [if_pos c21] at H
        have c21b0 : decide (1 < (l0_0.length : Int)) = true := decide_eq_true c21
        have c21b1 : decide (1 < l0_0.length) = true := decide_eq_true (by omega)
        clear c21
        by_cases c22 : a1 = 0
        ·rw [if_pos c22] at H
         exact absurd H (by simp)
        ·rw [if_neg c22] at H
         have c22b0 : (a1 == 0) = false := beq_eq_false_iff_ne.mpr c22
         have c22b1 : (a1 != 0) = true := bne_iff_ne.mpr c22
         obtain ⟨y310, hy310⟩ : ∃ y_ : List Int, y_ = (([rd l0_0 0, wrap64 (Int.tdiv (rd l0_0 1) a1)] : List Int)) := ⟨_, rfl⟩
         replace H : ((carouselref5_New.f kj5 y310 0).bind fun bt313 => (carouselref5_Pool.l0 kj5 a1 (rd l0_0 0) (rd l0_0 1) (wrap64 (Int.tdiv (rd l0_0 1) a1)) ([] : List Int) 0 l0_0 l0_1 bt313.1 bt313.2)) = some (r1, r2, r3, r4) := by first | (rw [hy310]; with_reducible exact H) | (have H2_ := (Option.bind_some _ _).symm.trans H; rw [hy310]; with_reducible exact H2_) | (have H2_ := (Option.bind_some _ _).symm.trans H; with_reducible exact H2_) | with_reducible exact H | (rw [hy310]; exact H) | exact H
         have Ny310 := Aside0.mk hy310
         clear hy310
         replace H := Option.bind_eq_some_iff.mp H
         obtain ⟨⟨t313, t316⟩, A230, H⟩ := H
         (try dsimp only at H)
         have A23 := Aside0.mk A230
         clear A230
         have H' := Aside0.mk H
         clear H
         try go_wp2
         replace BK304 := Aside0.mk (blk_drew BK304.out)
         replace BK305 := Aside0.mk (blk_drew BK305.out)
         replace HB := Aside0.mk (below_drew1 HB.out)
         have p308 : 0 ≤ (0 : Int) := (by omega)
         have q308 : 0 < (l0_0.length : Int) := of_decide_eq_true (by first | (with_reducible assumption) | assumption)
         obtain ⟨ad308, e308, hx308_0⟩ := Kd.at_int HR0_0.out 0 p308 q308
         have hw308_0 := hx308_0
         (try rw [show ((0 : Int)).toNat = 0 from rfl] at hw308_0)
         (try rw [show 0 * 1 = 0 from rfl] at hw308_0)
         (try rw [Addr.add_zero'] at hw308_0)
         cases e308
         have qi308 : (0 < l0_0.length) = True := eq_true (by omega)
         (try rw [show ((0 : Int)).toNat = 0 from rfl] at hx308_0)
         (try rw [Addr.add_zero'] at hx308_0)
         replace hx308_0 := (HB.out.cell (World.block_lt_of_cell? w _ hx308_0)).trans hx308_0
         replace p308 := eq_true p308
         replace q308 := eq_true q308
         have p309 : 0 ≤ (1 : Int) := (by omega)
         have q309 : 1 < (l0_0.length : Int) := of_decide_eq_true (by first | (with_reducible assumption) | assumption)
         obtain ⟨ad309, e309, hx309_0⟩ := Kd.at_int HR0_0.out 1 p309 q309
         have hw309_0 := hx309_0
         (try rw [show ((1 : Int)).toNat = 1 from rfl] at hw309_0)
         (try rw [show 1 * 1 = 1 from rfl] at hw309_0)
         (try simp only [Nat.reduceMul, Nat.reduceEqDiff, Go.Addr.add, ↓reduceIte] at hw309_0)
         obtain rfl : ad308 = ad309 := (by injection e309)
         (try simp only [show (1 : Int).toNat = 1 from rfl, Nat.reduceMul, Nat.reduceEqDiff, Go.Addr.add, ↓reduceIte] at hx309_0)
         have qi309 : (1 < l0_0.length) = True := eq_true (by omega)
         (try rw [show ((1 : Int)).toNat = 1 from rfl] at hx309_0)
         replace hx309_0 := (HB.out.cell (World.block_lt_of_cell? w _ hx309_0)).trans hx309_0
         replace p309 := eq_true p309
         replace q309 := eq_true q309
         refine start_ (n := 10) (S := fun w' => w'.cell? ⟨gb304, 0, none⟩ = some (.slice (some ad308) l0_0.length c0_0) ∧ w'.cell? ⟨gb304, 1, none⟩ = some (.slice A0_1 l0_1.length c0_1) ∧ w'.cell? ad308 = some (.int .i64 (rd l0_0 0)) ∧ w'.cell? ⟨ad308.block, ad308.off + 1, none⟩ = some (.int .i64 (rd l0_0 1))) (ds := []) #[false, false, false, false, false, false, false, false, false, false] (by kernel_rfl) rfl rfl ⟨(blk_cell BK304.out 0).trans rfl, (blk_cell BK304.out 1).trans rfl, ((HB.out.cell (World.block_lt_of_cell? w _ hw308_0)).trans hw308_0), ((HB.out.cell (World.block_lt_of_cell? w _ hw309_0)).trans hw309_0)⟩ (fun hHeld => ?_); refine with_tabW carouselref5_Pool.tab7 carouselref5_Pool.bits7 (fun HT_ HW_ => ?_)
         generalize wc.drew = w24 at BK304 BK305 HB hx308_0 hx309_0 hHeld ⊢
         refine zp_ 0 (some 36) (h := ?_)
         refine zp_ 4 (some 40) (h := ?_)
         refine zt_ 1 (some 37) (hr := by rintro w' ⟨s0, s1, s2, s3⟩; go_simp; with_reducible rfl) (h := ?_)
         refine zp_ 2 (some 38) (h := ?_)
         refine zt_ 3 (some 39) (hr := by rintro w' ⟨s0, s1, s2, s3⟩; go_simp; with_reducible rfl) (h := ?_)
         refine zp_ 8 (some 7) (h := ?_)
         refine zt_ 5 (some 41) (hr := by rintro w' ⟨s0, s1, s2, s3⟩; go_simp; with_reducible rfl) (h := ?_)
         refine zp_ 6 (some 42) (h := ?_)
         refine zt_ 7 (some 43) (hr := by rintro w' ⟨s0, s1, s2, s3⟩; go_simp; with_reducible rfl) (h := ?_)
         refine zp_ 9 (some 8) (h := ?_)
         refine done_ (done_of HT_.out (by kernel_rfl)) ?_
         try go_wp2_with (first | ((with_reducible refine gate_dst (N := 49) rfl ?_); refine Kd.R_lit (Kd.int .i64) _ 3 ?hg (N := 49) ?hd (xs := ([rd l0_0 0, wrap64 (Int.tdiv (rd l0_0 1) a1)] : List Int)) (inner := [.int .i64 (rd l0_0 0), .int .i64 (wrap64 (Int.tdiv (rd l0_0 1) a1))]) (ok := fun _ => True) (okp := fun _ => True) ?hr ?hp (fun _ hk => hk) trivial (Below.refl _ _) (Nat.le_refl _) (by simp) ?_; (case hd => rfl); (case hg => rfl); (case hr => first | (go_simp; done) | (go_simp; rfl)); (case hp => exact (Reps.one (show Kd.M (Kd.int .i64) _ _ _ (rd l0_0 0) [.int .i64 (rd l0_0 0)] from rfl) (Reps.one (show Kd.M (Kd.int .i64) _ _ _ (wrap64 (Int.tdiv (rd l0_0 1) a1)) [.int .i64 (wrap64 (Int.tdiv (rd l0_0 1) a1))] from rfl) (Reps.none _ _)))); intro v311 w25 ho26 hb hg_ hnew_; clear hg_ hnew_; (first | rw [← Ny310.out] at ho26 | (simp only [Int.reduceToNat] at ho26; rw [← Ny310.out] at ho26)); have HO312 := Aside0.mk (Kd.R_lower ho26 (below_size (zw2_ HB GE304 GE305))); replace BK304 := Aside0.mk (zl_ BK304 hb); replace BK305 := Aside0.mk (zl_ BK305 hb); replace HB := Aside0.mk (below_step (zw2_ HB GE304 GE305) hb); clear hb ho26; obtain ⟨Ao27, co27, eo27⟩ := Kd.R_slice HO312.out; subst eo27) | ((with_reducible refine gate_callee (f := 34) rfl ?_); refine zg_ (some 50) Try.func34 #[.slice Ao27 y310.length co27, .int .i64 0] (h := ?_); (with_reducible refine (carouselref5_New.calls kj5 _ _ y310 0 t313 t316 _ ?side1 ?side2 A23.out).mono ?_); (case side1 => exact zk_ ((Kd.R_reads' HO312.out).2.2)); (case side2 => exact (Kd.R_reads' HO312.out).2.1); rintro e w28 ⟨v314, v317, rfl, ho0, ho1, hb⟩; refine ⟨_, rfl, ?_⟩; have HO315 := Aside0.mk (Kd.R_lower (Kd.R_new' ho0 (Kd.R_lt (zr_ HO312.out))) (below_size (zw2_ HB GE304 GE305))); replace HO312 := Aside0.mk (Kd.R_elder' (zr_ HO312.out) (Kd.R_base ho0) hb); have HO318 := Aside0.mk (Kd.R_lower ho1 (below_size (zw2_ HB GE304 GE305))); replace BK304 := Aside0.mk (zl_ BK304 hb); replace BK305 := Aside0.mk (zl_ BK305 hb); replace HB := Aside0.mk (below_step (zw2_ HB GE304 GE305) hb); (try clear hb); (try clear ho0); (try clear ho1)) | ((with_reducible refine gate_dst (N := 10) rfl ?_); refine box_event ?hg (N := 10) ?hd (cs := #[.slice none 0 0, .slice none 0 0]) (t := 25) ?hr ?_; (case hd => rfl); (case hg => rfl); (case hr => first | (go_simp; done) | (go_simp; rfl)); intro gb319 hg w29 hbox hb; replace HO312 := Aside0.mk (Kd.R_below (zr_ HO312.out) hb); replace HO315 := Aside0.mk (Kd.R_below (zr_ HO315.out) hb); replace HO318 := Aside0.mk (Kd.R_below (zr_ HO318.out) hb); have BK319 := Aside0.mk (hbox); have GW319 := Aside0.mk (zs_ hg (zw2_ HB GE304 GE305)); have GE319 := Aside0.mk (zs_ hg (zw2_ HB GE304 GE305)); replace HB := Aside0.mk (below_step (zw2_ HB GE304 GE305) hb); have NB304_319 := Aside0.mk (zn_ hg BK304); have NB319_304 := Aside0.mk (zm_ hg BK304); replace BK304 := Aside0.mk (zl_ BK304 hb); have NB305_319 := Aside0.mk (zn_ hg BK305); have NB319_305 := Aside0.mk (zm_ hg BK305); replace BK305 := Aside0.mk (zl_ BK305 hb); clear hb hbox hg; obtain ⟨Ao30, co30, eo30⟩ := Kd.R_slice HO315.out; subst eo30; have hnb31 := NB319_304.out; have hnc31 := NB304_319.out; have hnb32 := NB319_305.out; have hnc32 := NB305_319.out; have hcz33_0 := zx_ (v := .slice none 0 0) BK319 0; have hcz33_1 := zx_ (v := .slice none 0 0) BK319 1; have hfz33_0 := blk_frozen BK319.out 0; have hfz33_1 := blk_frozen BK319.out 1; obtain ⟨Ao34, co34, eo34⟩ := Kd.R_slice HO318.out; subst eo34))
         go_loopg [11, 12] kj5 (fun kq v11 v12 w' => ∃ (x11_2 : List Int) (x12_2 : Int) (x320001_2 : List Int) (u320001 : Value), v12 = .int .i64 x12_2 ∧ Aside0 (carouselref5_Pool.l0 kq a1 (rd l0_0 0) (rd l0_0 1) (wrap64 (Int.tdiv (rd l0_0 1) a1)) x11_2 x12_2 l0_0 l0_1 t313 x320001_2 = some (r1, r2, r3, r4)) ∧ Aside0 (kq ≤ kj5) ∧ Aside0 (Kd.R (Kd.int .i64) 3 w' w.heap.size (fun k_ => some k_ ≠ ((.slice Ao30 t313.length co30) : Value).ownBlock) v11 x11_2) ∧ Aside0 (Kd.R (Kd.int .i64) 3 w' w.heap.size (fun k_ => some k_ ≠ (v11 : Value).ownBlock) (.slice Ao30 t313.length co30) t313) ∧ Aside0 (Kd.R (Kd.int .i64) 33 w' w.heap.size (fun _ => True) u320001 x320001_2) ∧ Aside0 (w'.heap[gb304]? = some (.cells #[(.slice (some ad308) l0_0.length c0_0), (.slice A0_1 l0_1.length c0_1)] 25 (0, 0))) ∧ Aside0 (w'.heap[gb305]? = some (.cells #[(.slice none 0 0), (.slice none 0 0)] 25 (0, 0))) ∧ Aside0 (w'.heap[gb319]? = some (.cells #[(.slice Ao30 t313.length co30), u320001] 25 (0, 0))) ∧ Aside0 (Below w.heap.size w w'))
         case atStart => exact ⟨(([] : List Int)), (0), (t316), (.slice Ao34 t316.length co34), (by first | rfl | (simp; done) | (simp [*]; done)), H', ⟨Nat.le_refl _⟩, ⟨by first | exact Kd.R_nil _ _ _ _ _ | exact Kd.N_nil _ _ _ _ _ | exact Kd.V_nil _ _ _ _ _ | exact Kd.Q_nil _ _ _ _ _ | exact Kd.S_nil _ _ _ _ _⟩, ⟨zr_ (Kd.R_mono (Kd.R_far (p := ⟨gb319, 1, none⟩) (Kd.R_far (p := ⟨gb319, 0, none⟩) (Kd.R_types HO315.out BK319.out (by decide)) (fun _ hk => hk.2) (.slice Ao30 t313.length co30)) (fun _ hk => hk.2) (.slice Ao34 t316.length co34)) (fun _ hk => (by simp [Value.ownBlock])))⟩, ⟨zr_ (Kd.R_mono (Kd.R_far (p := ⟨gb319, 1, none⟩) (Kd.R_far (p := ⟨gb319, 0, none⟩) (Kd.R_types HO318.out BK319.out (by decide)) (fun _ hk => hk.2) (.slice Ao30 t313.length co30)) (fun _ hk => hk.2) (.slice Ao34 t316.length co34)) (fun _ hk => trivial))⟩, ⟨by (with_reducible repeat (first | refine blk_drewN ?_ _ | refine blk_drew ?_ | refine blk_alloc ?_ _)); refine blk_far ?_ NB304_319.out _; (with_reducible repeat (first | refine blk_drewN ?_ _ | refine blk_drew ?_ | refine blk_alloc ?_ _)); refine blk_far ?_ NB304_319.out _; (with_reducible repeat (first | refine blk_drewN ?_ _ | refine blk_drew ?_ | refine blk_alloc ?_ _)); exact BK304.out⟩, ⟨by (with_reducible repeat (first | refine blk_drewN ?_ _ | refine blk_drew ?_ | refine blk_alloc ?_ _)); refine blk_far ?_ NB305_319.out _; (with_reducible repeat (first | refine blk_drewN ?_ _ | refine blk_drew ?_ | refine blk_alloc ?_ _)); refine blk_far ?_ NB305_319.out _; (with_reducible repeat (first | refine blk_drewN ?_ _ | refine blk_drew ?_ | refine blk_alloc ?_ _)); exact BK305.out⟩, ⟨by (with_reducible repeat (first | refine blk_drewN ?_ _ | refine blk_drew ?_ | refine blk_alloc ?_ _)); refine blk_put (cs := #[.slice Ao30 t313.length co30, .slice none 0 0]) ?_ 1 _ rfl; (with_reducible repeat (first | refine blk_drewN ?_ _ | refine blk_drew ?_ | refine blk_alloc ?_ _)); refine blk_put (cs := #[.slice none 0 0, .slice none 0 0]) ?_ 0 _ rfl; (with_reducible repeat (first | refine blk_drewN ?_ _ | refine blk_drew ?_ | refine blk_alloc ?_ _)); exact BK319.out⟩, ⟨zw3_ HB GE304 GE305 GE319⟩⟩
         case round =>
          clear H'
          try clear c1
          try clear c2
          try clear p2
          try clear c3
          try clear p3
          try clear q3
          try clear hx3
          try clear qi3
          try clear c4
          try clear c5
          try clear c5b0
          try clear c5b1
          try clear p6
          try clear c9
          try clear c13
          try clear c13b0
          try clear c14
          try clear c14b0
          try clear c14b1
          try clear c15
          try clear c17
          try clear c18
          try clear c20
          try clear c20b0
          try clear c20b1
          try clear c21
          try clear c21b0
          try clear c21b1
          try clear c22
          try clear c22b0
          try clear c22b1
          try clear p30
          try clear q30
          try clear hx30
          try clear qi30
          try clear c31
          try clear c32
          try clear c34
          try clear hcz10_0
          try clear hcz10_1
          try clear hcz12_0
          try clear hcz12_1
          try clear hcz16_0
          try clear hcz16_1
          try clear hcz19_0
          try clear hcz19_1
          try clear hcz33_0
          try clear hcz33_1
          try clear hfz10_0
          try clear hfz10_1
          try clear hfz12_0
          try clear hfz12_1
          try clear hfz16_0
          try clear hfz16_1
          try clear hfz19_0
          try clear hfz19_1
          try clear hfz33_0
          try clear hfz33_1
          try clear hx307_0
          try clear hx308_0
          try clear hx309_0
          try clear p2
          try clear p3
          try clear p307
          try clear p308
          try clear p309
          try clear q3
          try clear q307
          try clear q308
          try clear q309
          obtain ⟨x11_2, x12_2, x320001_2, u320001, rfl, HA, HK2, HO_11, HO_320000, HO_320001, BK304, BK305, BK319, HB⟩ := hrel
          cases gk with
          | zero => exact absurd HA.out (by simp [carouselref5_Pool.l0])
          | succ k2 =>
           have H := HA.out
           clear HA
           simp only [carouselref5_Pool.l0] at H
           by_cases c35 : x12_2 < (rd l0_0 0)
           ·rw [if_pos c35] at H
            have c35b0 : decide (x12_2 < (rd l0_0 0)) = true := decide_eq_true c35
            clear c35
            have H' := Aside0.mk H
            clear H
            go_wp2
            go_loopg [11, 13] k2 (fun kq v11 v13 w' => ∃ (x11_3 : List Int) (x13_3 : Int) (x320001_3 : List Int) (u320001 : Value), v13 = .int .i64 x13_3 ∧ Aside0 (carouselref5_Pool.l1 kq a1 (rd l0_0 0) (rd l0_0 1) (wrap64 (Int.tdiv (rd l0_0 1) a1)) x11_3 x12_2 x13_3 l0_0 l0_1 t313 x320001_3 = some (r1, r2, r3, r4)) ∧ Aside0 (kq ≤ k2) ∧ Aside0 (Kd.R (Kd.int .i64) 3 w' w.heap.size (fun k_ => some k_ ≠ ((.slice Ao30 t313.length co30) : Value).ownBlock) v11 x11_3) ∧ Aside0 (Kd.R (Kd.int .i64) 3 w' w.heap.size (fun k_ => some k_ ≠ (v11 : Value).ownBlock) (.slice Ao30 t313.length co30) t313) ∧ Aside0 (Kd.R (Kd.int .i64) 33 w' w.heap.size (fun _ => True) u320001 x320001_3) ∧ Aside0 (w'.heap[gb304]? = some (.cells #[(.slice (some ad308) l0_0.length c0_0), (.slice A0_1 l0_1.length c0_1)] 25 (0, 0))) ∧ Aside0 (w'.heap[gb305]? = some (.cells #[(.slice none 0 0), (.slice none 0 0)] 25 (0, 0))) ∧ Aside0 (w'.heap[gb319]? = some (.cells #[(.slice Ao30 t313.length co30), u320001] 25 (0, 0))) ∧ Aside0 (Below w.heap.size w w'))
            case atStart => exact ⟨(x11_2), (0), (x320001_2), (u320001), (by first | rfl | (simp; done) | (simp [*]; done)), H', ⟨Nat.le_refl _⟩, ⟨zr_ HO_11.out⟩, ⟨zr_ HO_320000.out⟩, ⟨zr_ HO_320001.out⟩, ⟨zb_ BK304⟩, ⟨zb_ BK305⟩, ⟨zb_ BK319⟩, ⟨zw3_ HB GE304 GE305 GE319⟩⟩
            case round =>
             clear H'
             try clear c1
             try clear c2
             try clear p2
             try clear c3
             try clear p3
             try clear q3
             try clear hx3
             try clear qi3
             try clear c4
             try clear c5
             try clear c5b0
             try clear c5b1
             try clear p6
             try clear c9
             try clear c13
             try clear c13b0
             try clear c14
             try clear c14b0
             try clear c14b1
             try clear c15
             try clear c17
             try clear c18
             try clear c20
             try clear c20b0
             try clear c20b1
             try clear c21
             try clear c21b0
             try clear c21b1
             try clear c22
             try clear c22b0
             try clear c22b1
             try clear p30
             try clear q30
             try clear hx30
             try clear qi30
             try clear c31
             try clear c32
             try clear c34
             try clear c35
             try clear c35b0
             try clear hcz10_0
             try clear hcz10_1
             try clear hcz12_0
             try clear hcz12_1
             try clear hcz16_0
             try clear hcz16_1
             try clear hcz19_0
             try clear hcz19_1
             try clear hcz33_0
             try clear hcz33_1
             try clear hfz10_0
             try clear hfz10_1
             try clear hfz12_0
             try clear hfz12_1
             try clear hfz16_0
             try clear hfz16_1
             try clear hfz19_0
             try clear hfz19_1
             try clear hfz33_0
             try clear hfz33_1
             try clear hx307_0
             try clear hx308_0
             try clear hx309_0
             try clear p2
             try clear p3
             try clear p30
             try clear p307
             try clear p308
             try clear p309
             try clear p6
             try clear q3
             try clear q30
             try clear q307
             try clear q308
             try clear q309
             obtain ⟨x11_3, x13_3, x320001_3, u320001, rfl, HA, HK3, HO_11, HO_320000, HO_320001, BK304, BK305, BK319, HB⟩ := hrel
             cases gk with
             | zero => exact absurd HA.out (by simp [carouselref5_Pool.l1])
             | succ k3 =>
              have H := HA.out
              clear HA
              simp only [carouselref5_Pool.l1] at H
              by_cases c36 : x13_3 < (wrap64 (Int.tdiv (rd l0_0 1) a1))
              ·rw [if_pos c36] at H
               have c36b0 : decide (x13_3 < (wrap64 (Int.tdiv (rd l0_0 1) a1))) = true := decide_eq_true c36
               clear c36
               have H' := Aside0.mk H
               clear H
               go_wp2
               go_loopg [14, 15] k3 (fun kq v14 v15 w' => ∃ (x14_4 : Int) (x15_4 : Int), v14 = .int .i64 x14_4 ∧ v15 = .int .i64 x15_4 ∧ Aside0 (carouselref5_Pool.l2 kq a1 (rd l0_0 0) (rd l0_0 1) (wrap64 (Int.tdiv (rd l0_0 1) a1)) x11_3 x12_2 x13_3 x14_4 x15_4 l0_0 l0_1 t313 x320001_3 = some (r1, r2, r3, r4)) ∧ Aside0 (kq ≤ k3) ∧ Aside0 (Kd.R (Kd.int .i64) 3 w' w.heap.size (fun k_ => some k_ ≠ ((.slice Ao30 t313.length co30) : Value).ownBlock) u11 x11_3) ∧ Aside0 (Kd.R (Kd.int .i64) 3 w' w.heap.size (fun k_ => some k_ ≠ (u11 : Value).ownBlock) (.slice Ao30 t313.length co30) t313) ∧ Aside0 (Kd.R (Kd.int .i64) 33 w' w.heap.size (fun _ => True) u320001 x320001_3) ∧ Aside0 (w'.heap[gb304]? = some (.cells #[(.slice (some ad308) l0_0.length c0_0), (.slice A0_1 l0_1.length c0_1)] 25 (0, 0))) ∧ Aside0 (w'.heap[gb305]? = some (.cells #[(.slice none 0 0), (.slice none 0 0)] 25 (0, 0))) ∧ Aside0 (w'.heap[gb319]? = some (.cells #[(.slice Ao30 t313.length co30), u320001] 25 (0, 0))) ∧ Aside0 (Below w.heap.size w w'))
               case atStart => exact ⟨(wrap64 ((wrap64 (x12_2 * (rd l0_0 1))) + (wrap64 (x13_3 * a1)))), (1), (by first | rfl | (simp; done) | (simp [*]; done)), (by first | rfl | (simp; done) | (simp [*]; done)), H', ⟨Nat.le_refl _⟩, ⟨zr_ HO_11.out⟩, ⟨zr_ HO_320000.out⟩, ⟨zr_ HO_320001.out⟩, ⟨zb_ BK304⟩, ⟨zb_ BK305⟩, ⟨zb_ BK319⟩, ⟨zw3_ HB GE304 GE305 GE319⟩⟩
               case round =>
                clear H'
                try clear c1
                try clear c2
                try clear p2
                try clear c3
                try clear p3
                try clear q3
                try clear hx3
                try clear qi3
                try clear c4
                try clear c5
                try clear c5b0
                try clear c5b1
                try clear p6
                try clear c9
                try clear c13
                try clear c13b0
                try clear c14
                try clear c14b0
                try clear c14b1
                try clear c15
                try clear c17
                try clear c18
                try clear c20
                try clear c20b0
                try clear c20b1
                try clear c21
                try clear c21b0
                try clear c21b1
                try clear c22
                try clear c22b0
                try clear c22b1
                try clear p30
                try clear q30
                try clear hx30
                try clear qi30
                try clear c31
                try clear c32
                try clear c34
                try clear c35
                try clear c35b0
                try clear c36
                try clear c36b0
                try clear hcz10_0
                try clear hcz10_1
                try clear hcz12_0
                try clear hcz12_1
                try clear hcz16_0
                try clear hcz16_1
                try clear hcz19_0
                try clear hcz19_1
                try clear hcz33_0
                try clear hcz33_1
                try clear hfz10_0
                try clear hfz10_1
                try clear hfz12_0
                try clear hfz12_1
                try clear hfz16_0
                try clear hfz16_1
                try clear hfz19_0
                try clear hfz19_1
                try clear hfz33_0
                try clear hfz33_1
                try clear hx307_0
                try clear hx308_0
                try clear hx309_0
                try clear p2
                try clear p3
                try clear p30
                try clear p307
                try clear p308
                try clear p309
                try clear p6
                try clear q3
                try clear q30
                try clear q307
                try clear q308
                try clear q309
                obtain ⟨x14_4, x15_4, rfl, rfl, HA, HK4, HO_11, HO_320000, HO_320001, BK304, BK305, BK319, HB⟩ := hrel
                cases gk with
                | zero => exact absurd HA.out (by simp [carouselref5_Pool.l2])
                | succ k4 =>
                 have H := HA.out
                 clear HA
                 simp only [carouselref5_Pool.l2] at H
                 by_cases c37 : x15_4 < a1
                 ·rw [if_pos c37] at H
                  have c37b0 : decide (x15_4 < a1) = true := decide_eq_true c37
                  clear c37
                  obtain ⟨ji38, hji38⟩ : ∃ j_ : Int, (wrap64 ((wrap64 ((wrap64 (x12_2 * (rd l0_0 1))) + (wrap64 (x13_3 * a1)))) + x15_4)) = j_ := ⟨_, rfl⟩
                  replace H : (if 0 ≤ (ji38) then (if (ji38) < (l0_1.length : Int) then (if 0 ≤ x14_4 then (if x14_4 < (l0_1.length : Int) then (if (rd l0_1 (ji38)) > (rd l0_1 x14_4) then (carouselref5_Pool.l2 k4 a1 (rd l0_0 0) (rd l0_0 1) (wrap64 (Int.tdiv (rd l0_0 1) a1)) x11_3 x12_2 x13_3 ji38 (wrap64 (x15_4 + 1)) l0_0 l0_1 t313 x320001_3) else (carouselref5_Pool.l2 k4 a1 (rd l0_0 0) (rd l0_0 1) (wrap64 (Int.tdiv (rd l0_0 1) a1)) x11_3 x12_2 x13_3 x14_4 (wrap64 (x15_4 + 1)) l0_0 l0_1 t313 x320001_3)) else (none)) else (none)) else (none)) else (none)) = some (r1, r2, r3, r4) := by first | (rw [hji38] at H; exact H) | (simp only [hji38] at H ⊢; exact H)
                  have hji38w : (IntKind.i64.wrap ((wrap64 ((wrap64 (x12_2 * (rd l0_0 1))) + (wrap64 (x13_3 * a1)))) + x15_4)) = ji38 := (i64_w _).trans hji38
                  by_cases c39 : 0 ≤ (ji38)
                  ·rw [if_pos c39] at H
                   have c39b0 : decide (0 ≤ (ji38)) = true := decide_eq_true c39
                   clear c39
                   by_cases c40 : (ji38) < (l0_1.length : Int)
                   ·rw [if_pos c40] at H
                    have c40b0 : decide ((ji38) < (l0_1.length : Int)) = true := decide_eq_true c40
                    clear c40
                    by_cases c41 : 0 ≤ x14_4
                    ·rw [if_pos c41] at H
                     have c41b0 : decide (0 ≤ x14_4) = true := decide_eq_true c41
                     clear c41
                     by_cases c42 : x14_4 < (l0_1.length : Int)
                     ·rw [if_pos c42] at H
                      have c42b0 : decide (x14_4 < (l0_1.length : Int)) = true := decide_eq_true c42
                      clear c42
                      by_cases c43 : (rd l0_1 (ji38)) > (rd l0_1 x14_4)
                      ·rw [if_pos c43] at H
                       have c43b0 : decide ((rd l0_1 x14_4) < (rd l0_1 (ji38))) = true := decide_eq_true c43
                       clear c43
                       have H' := Aside0.mk H
                       clear H
                       try go_wp2
                       replace HO_11 := Aside0.mk (Kd.R_drew HO_11.out)
                       replace HO_320000 := Aside0.mk (Kd.R_drew HO_320000.out)
                       replace HO_320001 := Aside0.mk (Kd.R_drew HO_320001.out)
                       replace BK304 := Aside0.mk (blk_drew BK304.out)
                       replace BK305 := Aside0.mk (blk_drew BK305.out)
                       replace BK319 := Aside0.mk (blk_drew BK319.out)
                       replace HB := Aside0.mk (below_drew1 HB.out)
                       have p320 : 0 ≤ ((ji38) : Int) := of_decide_eq_true (by first | (with_reducible assumption) | assumption)
                       have q320 : (ji38) < (l0_1.length : Int) := of_decide_eq_true (by first | (with_reducible assumption) | assumption)
                       obtain ⟨ad320, e320, hx320_0⟩ := Kd.at_int HR0_1.out (ji38) p320 q320
                       have hw320_0 := hx320_0
                       cases e320
                       replace hx320_0 := (HB.out.cell (World.block_lt_of_cell? w _ hx320_0)).trans hx320_0
                       replace p320 := eq_true p320
                       replace q320 := eq_true q320
                       have p321 : 0 ≤ (x14_4 : Int) := of_decide_eq_true (by first | (with_reducible assumption) | assumption)
                       have q321 : x14_4 < (l0_1.length : Int) := of_decide_eq_true (by first | (with_reducible assumption) | assumption)
                       obtain ⟨ad321, e321, hx321_0⟩ := Kd.at_int HR0_1.out x14_4 p321 q321
                       have hw321_0 := hx321_0
                       obtain rfl : ad320 = ad321 := (by injection e321)
                       replace hx321_0 := (HB.out.cell (World.block_lt_of_cell? w _ hx321_0)).trans hx321_0
                       replace p321 := eq_true p321
                       replace q321 := eq_true q321
                       refine start_ (n := 19) (S := fun w' => w'.cell? ⟨gb304, 0, none⟩ = some (.slice (some ad308) l0_0.length c0_0) ∧ w'.cell? ⟨gb304, 1, none⟩ = some (.slice (some ad320) l0_1.length c0_1) ∧ w'.cell? (ad320.add ((ji38)).toNat) = some (.int .i64 (rd l0_1 (ji38))) ∧ w'.cell? (ad320.add (x14_4).toNat) = some (.int .i64 (rd l0_1 x14_4))) (ds := []) #[false, false, false, false, false, false, false, false, false, false, false, false, false, false, false, false, false, false, false] (by kernel_rfl) rfl rfl ⟨(blk_cell BK304.out 0).trans rfl, (blk_cell BK304.out 1).trans rfl, ((HB.out.cell (World.block_lt_of_cell? w _ hw320_0)).trans hw320_0), ((HB.out.cell (World.block_lt_of_cell? w _ hw321_0)).trans hw321_0)⟩ (fun hHeld => ?_); refine with_tabW carouselref5_Pool.tab21 carouselref5_Pool.bits21 (fun HT_ HW_ => ?_)
                       generalize wr.drew = w44 at HO_11 HO_320000 HO_320001 BK304 BK305 BK319 HB hx320_0 hx321_0 hHeld ⊢
                       refine zp_ 0 (some 73) (h := ?_)
                       refine zp_ 2 (some 75) (h := ?_)
                       refine zp_ 3 (some 76) (h := ?_)
                       refine zp_ 4 (some 77) (h := ?_)
                       refine zp_ 5 (some 78) (h := ?_)
                       refine zp_ 6 (some 79) (h := ?_)
                       refine zp_ 7 (some 80) (h := ?_)
                       refine zp_ 8 (some 81) (h := ?_)
                       refine zp_ 9 (some 82) (h := ?_)
                       refine zp_ 10 (some 83) (h := ?_)
                       refine zp_ 13 (some 86) (h := ?_)
                       refine zp_ 15 (some 88) (h := ?_)
                       refine zt_ 1 (some 74) (hr := by rintro w' ⟨s0, s1, s2, s3⟩; go_simp; with_reducible rfl) (h := ?_)
                       refine zp_ 11 (some 84) (h := ?_)
                       refine zt_ 12 (some 85) (hr := by rintro w' ⟨s0, s1, s2, s3⟩; go_simp; with_reducible rfl) (h := ?_)
                       refine zt_ 14 (some 87) (hr := by rintro w' ⟨s0, s1, s2, s3⟩; go_simp; with_reducible rfl) (h := ?_)
                       refine zp_ 16 (some 89) (h := ?_)
                       refine zt_ 17 (some 90) (hr := by rintro w' ⟨s0, s1, s2, s3⟩; go_simp; with_reducible rfl) (h := ?_)
                       refine zp_ 18 (some 91) (h := ?_)
                       refine done_ (done_of HT_.out (by kernel_rfl)) ?_
                       try go_wp2
                       go_roundg k4
                       case measure => have := HJ5.out; have := HK2.out; have := HK3.out; have := HK4.out; omega
                       case rel => exact ⟨(ji38), (wrap64 (x15_4 + 1)), (by first | rfl | (simp; done) | (simp only [← hji38] <;> (first | rfl | simp)) | (simp [*]; done)), (by first | rfl | (simp; done) | (simp [*]; done)), H', ⟨by have := HJ5.out; have := HK2.out; have := HK3.out; have := HK4.out; omega⟩, ⟨zr_ HO_11.out⟩, ⟨zr_ HO_320000.out⟩, ⟨zr_ HO_320001.out⟩, ⟨zb_ BK304⟩, ⟨zb_ BK305⟩, ⟨zb_ BK319⟩, ⟨zw3_ HB GE304 GE305 GE319⟩⟩
                      ·rw [if_neg c43] at H
                       have c43b0 : decide ((rd l0_1 x14_4) < (rd l0_1 (ji38))) = false := decide_eq_false c43
                       clear c43
                       have H' := Aside0.mk H
                       clear H
                       try go_wp2
                       replace HO_11 := Aside0.mk (Kd.R_drew HO_11.out)
                       replace HO_320000 := Aside0.mk (Kd.R_drew HO_320000.out)
                       replace HO_320001 := Aside0.mk (Kd.R_drew HO_320001.out)
                       replace BK304 := Aside0.mk (blk_drew BK304.out)
                       replace BK305 := Aside0.mk (blk_drew BK305.out)
                       replace BK319 := Aside0.mk (blk_drew BK319.out)
                       replace HB := Aside0.mk (below_drew1 HB.out)
                       have p320 : 0 ≤ ((ji38) : Int) := of_decide_eq_true (by first | (with_reducible assumption) | assumption)
                       have q320 : (ji38) < (l0_1.length : Int) := of_decide_eq_true (by first | (with_reducible assumption) | assumption)
                       obtain ⟨ad320, e320, hx320_0⟩ := Kd.at_int HR0_1.out (ji38) p320 q320
                       have hw320_0 := hx320_0
                       cases e320
                       replace hx320_0 := (HB.out.cell (World.block_lt_of_cell? w _ hx320_0)).trans hx320_0
                       replace p320 := eq_true p320
                       replace q320 := eq_true q320
                       have p321 : 0 ≤ (x14_4 : Int) := of_decide_eq_true (by first | (with_reducible assumption) | assumption)
                       have q321 : x14_4 < (l0_1.length : Int) := of_decide_eq_true (by first | (with_reducible assumption) | assumption)
                       obtain ⟨ad321, e321, hx321_0⟩ := Kd.at_int HR0_1.out x14_4 p321 q321
                       have hw321_0 := hx321_0
                       obtain rfl : ad320 = ad321 := (by injection e321)
                       replace hx321_0 := (HB.out.cell (World.block_lt_of_cell? w _ hx321_0)).trans hx321_0
                       replace p321 := eq_true p321
                       replace q321 := eq_true q321
                       refine start_ (n := 19) (S := fun w' => w'.cell? ⟨gb304, 0, none⟩ = some (.slice (some ad308) l0_0.length c0_0) ∧ w'.cell? ⟨gb304, 1, none⟩ = some (.slice (some ad320) l0_1.length c0_1) ∧ w'.cell? (ad320.add ((ji38)).toNat) = some (.int .i64 (rd l0_1 (ji38))) ∧ w'.cell? (ad320.add (x14_4).toNat) = some (.int .i64 (rd l0_1 x14_4))) (ds := []) #[false, false, false, false, false, false, false, false, false, false, false, false, false, false, false, false, false, false, false] (by kernel_rfl) rfl rfl ⟨(blk_cell BK304.out 0).trans rfl, (blk_cell BK304.out 1).trans rfl, ((HB.out.cell (World.block_lt_of_cell? w _ hw320_0)).trans hw320_0), ((HB.out.cell (World.block_lt_of_cell? w _ hw321_0)).trans hw321_0)⟩ (fun hHeld => ?_); refine with_tabW carouselref5_Pool.tab21 carouselref5_Pool.bits21 (fun HT_ HW_ => ?_)
                       generalize wr.drew = w45 at HO_11 HO_320000 HO_320001 BK304 BK305 BK319 HB hx320_0 hx321_0 hHeld ⊢
                       refine zp_ 0 (some 73) (h := ?_)
                       refine zp_ 2 (some 75) (h := ?_)
                       refine zp_ 3 (some 76) (h := ?_)
                       refine zp_ 4 (some 77) (h := ?_)
                       refine zp_ 5 (some 78) (h := ?_)
                       refine zp_ 6 (some 79) (h := ?_)
                       refine zp_ 7 (some 80) (h := ?_)
                       refine zp_ 8 (some 81) (h := ?_)
                       refine zp_ 9 (some 82) (h := ?_)
                       refine zp_ 10 (some 83) (h := ?_)
                       refine zp_ 13 (some 86) (h := ?_)
                       refine zp_ 15 (some 88) (h := ?_)
                       refine zt_ 1 (some 74) (hr := by rintro w' ⟨s0, s1, s2, s3⟩; go_simp; with_reducible rfl) (h := ?_)
                       refine zp_ 11 (some 84) (h := ?_)
                       refine zt_ 12 (some 85) (hr := by rintro w' ⟨s0, s1, s2, s3⟩; go_simp; with_reducible rfl) (h := ?_)
                       refine zt_ 14 (some 87) (hr := by rintro w' ⟨s0, s1, s2, s3⟩; go_simp; with_reducible rfl) (h := ?_)
                       refine zp_ 16 (some 89) (h := ?_)
                       refine zt_ 17 (some 90) (hr := by rintro w' ⟨s0, s1, s2, s3⟩; go_simp; with_reducible rfl) (h := ?_)
                       refine zp_ 18 (some 91) (h := ?_)
                       refine done_ (done_of HT_.out (by kernel_rfl)) ?_
                       try go_wp2
                       go_roundg k4
                       case measure => have := HJ5.out; have := HK2.out; have := HK3.out; have := HK4.out; omega
                       case rel => exact ⟨(x14_4), (wrap64 (x15_4 + 1)), (by first | rfl | (simp; done) | (simp [*]; done)), (by first | rfl | (simp; done) | (simp [*]; done)), H', ⟨by have := HJ5.out; have := HK2.out; have := HK3.out; have := HK4.out; omega⟩, ⟨zr_ HO_11.out⟩, ⟨zr_ HO_320000.out⟩, ⟨zr_ HO_320001.out⟩, ⟨zb_ BK304⟩, ⟨zb_ BK305⟩, ⟨zb_ BK319⟩, ⟨zw3_ HB GE304 GE305 GE319⟩⟩
                     ·rw [if_neg c42] at H
                      exact absurd H (by simp)
                    ·rw [if_neg c41] at H
                     exact absurd H (by simp)
                   ·rw [if_neg c40] at H
                    exact absurd H (by simp)
                  ·rw [if_neg c39] at H
                   exact absurd H (by simp)
                 ·rw [if_neg c37] at H
                  have c37b0 : decide (x15_4 < a1) = false := decide_eq_false c37
                  clear c37
                  by_cases c46 : 0 ≤ x14_4
                  ·rw [if_pos c46] at H
                   have c46b0 : decide (0 ≤ x14_4) = true := decide_eq_true c46
                   clear c46
                   by_cases c47 : x14_4 < (l0_1.length : Int)
                   ·rw [if_pos c47] at H
                    have c47b0 : decide (x14_4 < (l0_1.length : Int)) = true := decide_eq_true c47
                    clear c47
                    obtain ⟨ji48, hji48⟩ : ∃ j_ : Int, (wrap64 ((wrap64 (x12_2 * (wrap64 (Int.tdiv (rd l0_0 1) a1)))) + x13_3)) = j_ := ⟨_, rfl⟩
                    replace H : (if 0 ≤ (ji48) then (if (ji48) < (x320001_3.length : Int) then (if x11_3.length < 17592186044416 then (carouselref5_Pool.l1 k4 a1 (rd l0_0 0) (rd l0_0 1) (wrap64 (Int.tdiv (rd l0_0 1) a1)) (x11_3 ++ [x14_4]) x12_2 (wrap64 (x13_3 + 1)) l0_0 l0_1 t313 (x320001_3.set ((ji48) : Int).toNat (rd l0_1 x14_4))) else (none)) else (none)) else (none)) = some (r1, r2, r3, r4) := by first | (rw [hji48] at H; exact H) | (simp only [hji48] at H ⊢; exact H)
                    have hji48w : (IntKind.i64.wrap ((wrap64 (x12_2 * (wrap64 (Int.tdiv (rd l0_0 1) a1)))) + x13_3)) = ji48 := (i64_w _).trans hji48
                    by_cases c49 : 0 ≤ (ji48)
                    ·rw [if_pos c49] at H
                     have c49b0 : decide (0 ≤ (ji48)) = true := decide_eq_true c49
                     clear c49
                     by_cases c50 : (ji48) < (x320001_3.length : Int)
                     ·rw [if_pos c50] at H
                      have c50b0 : decide ((ji48) < (x320001_3.length : Int)) = true := decide_eq_true c50
                      clear c50
                      obtain ⟨y323, hy323⟩ : ∃ y_ : List Int, y_ = (x320001_3.set ((ji48) : Int).toNat (rd l0_1 x14_4)) := ⟨_, rfl⟩
                      replace H : (if x11_3.length < 17592186044416 then (carouselref5_Pool.l1 k4 a1 (rd l0_0 0) (rd l0_0 1) (wrap64 (Int.tdiv (rd l0_0 1) a1)) (x11_3 ++ [x14_4]) x12_2 (wrap64 (x13_3 + 1)) l0_0 l0_1 t313 y323) else (none)) = some (r1, r2, r3, r4) := by first | (rw [hy323]; with_reducible exact H) | (have H2_ := (Option.bind_some _ _).symm.trans H; rw [hy323]; with_reducible exact H2_) | (have H2_ := (Option.bind_some _ _).symm.trans H; with_reducible exact H2_) | with_reducible exact H | (rw [hy323]; exact H) | exact H
                      have Ny323 := Aside0.mk hy323
                      clear hy323
                      by_cases c52 : x11_3.length < 17592186044416
                      ·rw [if_pos c52] at H
                       have LMc52 := Aside0.mk c52
                       clear c52
                       obtain ⟨y324, hy324⟩ : ∃ y_ : List Int, y_ = (x11_3 ++ [x14_4]) := ⟨_, rfl⟩
                       replace H : (carouselref5_Pool.l1 k4 a1 (rd l0_0 0) (rd l0_0 1) (wrap64 (Int.tdiv (rd l0_0 1) a1)) y324 x12_2 (wrap64 (x13_3 + 1)) l0_0 l0_1 t313 y323) = some (r1, r2, r3, r4) := by first | (rw [hy324]; with_reducible exact H) | (have H2_ := (Option.bind_some _ _).symm.trans H; rw [hy324]; with_reducible exact H2_) | (have H2_ := (Option.bind_some _ _).symm.trans H; with_reducible exact H2_) | with_reducible exact H | (rw [hy324]; exact H) | exact H
                       have Ny324 := Aside0.mk hy324
                       clear hy324
                       have H' := Aside0.mk H
                       clear H
                       try go_wp2
                       replace HO_11 := Aside0.mk (Kd.R_drew HO_11.out)
                       replace HO_320000 := Aside0.mk (Kd.R_drew HO_320000.out)
                       replace HO_320001 := Aside0.mk (Kd.R_drew HO_320001.out)
                       replace BK304 := Aside0.mk (blk_drew BK304.out)
                       replace BK305 := Aside0.mk (blk_drew BK305.out)
                       replace BK319 := Aside0.mk (blk_drew BK319.out)
                       replace HB := Aside0.mk (below_drew1 HB.out)
                       have p322 : 0 ≤ (x14_4 : Int) := of_decide_eq_true (by first | (with_reducible assumption) | assumption)
                       have q322 : x14_4 < (l0_1.length : Int) := of_decide_eq_true (by first | (with_reducible assumption) | assumption)
                       obtain ⟨ad322, e322, hx322_0⟩ := Kd.at_int HR0_1.out x14_4 p322 q322
                       have hw322_0 := hx322_0
                       cases e322
                       replace hx322_0 := (HB.out.cell (World.block_lt_of_cell? w _ hx322_0)).trans hx322_0
                       replace p322 := eq_true p322
                       replace q322 := eq_true q322
                       have p51 : 0 ≤ ((ji48) : Int) := of_decide_eq_true (by first | (with_reducible assumption) | assumption)
                       have q51 : ((ji48) : Int) < ((x320001_3.length : Int) : Int) := of_decide_eq_true (by first | (with_reducible assumption) | assumption)
                       obtain ⟨go51, co51, eo51, gb51, gl51, cl51, HG51⟩ := Kd.R_form HO_320001.out (by omega)
                       (first | cases eo51 | (injection eo51 with ea_ en_ ec_; (first | subst ea_ | (injection ea_ with ea_; subst ea_)); subst ec_; clear en_))
                       have GB51 := Aside0.mk gb51
                       have GG51 := Aside0.mk HG51
                       clear gb51 gl51 HG51
                       obtain ⟨hx51_0, hf51_0⟩ := Kd.R_celln 0 HO_320001.out ((ji48) : Int) p51 q51
                       replace p51 := eq_true p51
                       replace q51 := eq_true q51
                       have HP54 := Kd.R_putn HO_320001.out ((ji48) : Int) (rd l0_1 x14_4)
                       rw [← Ny323.out] at HP54
                       have HQ54 := Aside0.mk HP54
                       clear HP54
                       refine start_ (n := 14) (S := fun w' => w'.cell? ⟨gb319, 0, none⟩ = some (.slice Ao30 t313.length co30) ∧ w'.cell? ⟨gb319, 1, none⟩ = some (.slice (some ⟨go51, 0, none⟩) x320001_3.length co51) ∧ w'.cell? ⟨gb304, 0, none⟩ = some (.slice (some ad308) l0_0.length c0_0) ∧ w'.cell? ⟨gb304, 1, none⟩ = some (.slice (some ad322) l0_1.length c0_1) ∧ w'.cell? (ad322.add (x14_4).toNat) = some (.int .i64 (rd l0_1 x14_4))) (ds := [13]) #[false, false, false, false, false, false, false, false, false, false, false, false, false, false] (by kernel_rfl) rfl rfl ⟨(blk_cell BK319.out 0).trans rfl, (blk_cell BK319.out 1).trans rfl, (blk_cell BK304.out 0).trans rfl, (blk_cell BK304.out 1).trans rfl, ((HB.out.cell (World.block_lt_of_cell? w _ hw322_0)).trans hw322_0)⟩ (fun hHeld => ?_); refine with_tabW carouselref5_Pool.tab23 carouselref5_Pool.bits23 (fun HT_ HW_ => ?_)
                       generalize wr.drew = w53 at HO_11 HO_320000 HO_320001 BK304 BK305 BK319 HB GG51 HQ54 hf51_0 hx322_0 hx51_0 hHeld ⊢
                       refine zp_ 0 (some 101) (h := ?_)
                       refine zp_ 2 (some 103) (h := ?_)
                       refine zp_ 3 (some 104) (h := ?_)
                       refine zp_ 4 (some 105) (h := ?_)
                       refine zp_ 5 (some 106) (h := ?_)
                       refine zp_ 6 (some 107) (h := ?_)
                       refine zp_ 7 (some 108) (h := ?_)
                       refine zp_ 9 (some 110) (h := ?_)
                       refine zt_ 1 (some 102) (hr := by rintro w' ⟨s0, s1, s2, s3, s4⟩; go_simp; with_reducible rfl) (h := ?_)
                       refine zt_ 8 (some 109) (hr := by rintro w' ⟨s0, s1, s2, s3, s4⟩; go_simp; with_reducible rfl) (h := ?_)
                       refine zp_ 10 (some 111) (h := ?_)
                       refine zt_ 11 (some 112) (hr := by rintro w' ⟨s0, s1, s2, s3, s4⟩; go_simp; with_reducible rfl) (h := ?_)
                       refine zp_ 12 (some 113) (h := ?_)
                       refine last_ (i := 13) (N := none) #[true, true, true, true, true, true, true, true, true, true, true, true, true, true] rfl rfl (one_of HT_.out (by kernel_rfl)) (by decide) (fun K hK => ?_)
                       refine skip_ (w1 := ?_) (by rfl) rfl ?_ ?_
                       rotate_left
                       ·go_simp
                        rfl
                       refine hK.out _ _ ?_
                       clear hK K
                       refine done_ (done_of HT_.out (by kernel_rfl)) ?_
                       try go_wp2_with (first | ((with_reducible refine gate_builtin (b := .append) (xs := #[.tmp 114, .tmp 116]) rfl ?_); at_builtin; refine Kd.R_append (Kd.int .i64) (w0 := w) w.heap.size rfl (.tmp 114) (.tmp 116) 22 3 (.int .i64 0) 8 rfl Try.underlying22 info3 rfl (by decide) (by omega) u11 x11_3 x14_4 [.int .i64 x14_4] (fun k_ => some k_ ≠ (.slice Ao30 t313.length co30 : Value).ownBlock) (fun _ => False) rfl (by first | (go_simp; done) | (go_simp; rfl)) ?aP (fun _ hk => hk.elim) ?aF ?aO ?aB ?aS ?aL ?_; (case aP => exact rfl); (case aB => exact (by repeat (first | (with_reducible first | exact HB.out | apply below_alloc | apply pw_below_drewN | apply below_drew1 | refine below_set ?_ GB51.out | refine below_set ?_ GE304.out | refine below_set ?_ GE305.out | refine below_set ?_ GE319.out) | exact HB.out))); (case aF => exact (fun k_ hk => Kd.fresh' (Kd.R_lt (zr_ ((Kd.R_mono (Kd.R_far (p := ⟨go51, ((ji48) : Int).toNat, none⟩) (Kd.R_types HO_320000.out GG51.out (by decide)) (fun _ hk => hk.2) (.int .i64 (rd l0_1 x14_4))) (fun _ h_ => h_.1))))) k_ hk)); (case aO => exact (zr_ (Kd.R_mono (Kd.R_far (p := ⟨go51, ((ji48) : Int).toNat, none⟩) (Kd.R_types HO_11.out GG51.out (by decide)) (fun _ hk => hk.2) (.int .i64 (rd l0_1 x14_4))) (fun _ hk => hk.1)))); (case aS => exact (below_size (by repeat (first | (with_reducible first | exact HB.out | apply below_alloc | apply pw_below_drewN | apply below_drew1 | refine below_set ?_ GB51.out | refine below_set ?_ GE304.out | refine below_set ?_ GE305.out | refine below_set ?_ GE319.out) | exact HB.out)))); (case aL => have := LMc52.out; omega); intro v325 w55 ho hb hg hat; rw [← Ny324.out] at ho; replace HO_320000 := Aside0.mk (Kd.R_after (ok := (fun _ => True)) (zr_ (Kd.R_mono (Kd.R_far (p := ⟨go51, ((ji48) : Int).toNat, none⟩) (Kd.R_types HO_320000.out GG51.out (by decide)) (fun _ hk => hk.2) (.int .i64 (rd l0_1 x14_4))) (fun _ hk => ⟨trivial, hk.1⟩))) hg hat); replace BK304 := Aside0.mk (blk_grown (g := gb304) (o := .cells #[.slice (some ad308) l0_0.length c0_0, .slice (some ad322) l0_1.length c0_1] 25 (0, 0)) (by (with_reducible repeat (first | refine blk_drewN ?_ _ | refine blk_drew ?_ | refine blk_alloc ?_ _)); refine blk_far ?_ (by have h_ := Kd.R_ne HO_320001.out BK304.out (by decide); intro e_; exact h_ (by rw [e_]; rfl)) _; (with_reducible repeat (first | refine blk_drewN ?_ _ | refine blk_drew ?_ | refine blk_alloc ?_ _)); exact BK304.out) hg (Kd.R_ne HO_11.out BK304.out (by decide))); replace BK305 := Aside0.mk (blk_grown (g := gb305) (o := .cells #[.slice none 0 0, .slice none 0 0] 25 (0, 0)) (by (with_reducible repeat (first | refine blk_drewN ?_ _ | refine blk_drew ?_ | refine blk_alloc ?_ _)); refine blk_far ?_ (by have h_ := Kd.R_ne HO_320001.out BK305.out (by decide); intro e_; exact h_ (by rw [e_]; rfl)) _; (with_reducible repeat (first | refine blk_drewN ?_ _ | refine blk_drew ?_ | refine blk_alloc ?_ _)); exact BK305.out) hg (Kd.R_ne HO_11.out BK305.out (by decide))); replace BK319 := Aside0.mk (blk_grown (g := gb319) (o := .cells #[.slice Ao30 t313.length co30, .slice (some ⟨go51, 0, none⟩) x320001_3.length co51] 25 (0, 0)) (by (with_reducible repeat (first | refine blk_drewN ?_ _ | refine blk_drew ?_ | refine blk_alloc ?_ _)); refine blk_far ?_ (by have h_ := Kd.R_ne HO_320001.out BK319.out (by decide); intro e_; exact h_ (by rw [e_]; rfl)) _; (with_reducible repeat (first | refine blk_drewN ?_ _ | refine blk_drew ?_ | refine blk_alloc ?_ _)); exact BK319.out) hg (Kd.R_ne HO_11.out BK319.out (by decide))); replace HO_320001 := Aside0.mk (Kd.R_over' (zr_ HQ54.out) (Kd.R_typed (zr_ ((Kd.R_mono (Kd.R_far (p := ⟨go51, ((ji48) : Int).toNat, none⟩) (Kd.R_types HO_11.out GG51.out (by decide)) (fun _ hk => hk.2) (.int .i64 (rd l0_1 x14_4))) (fun _ h_ => h_.1))))) (by decide) hg); replace HB := Aside0.mk (hb); have HO326 := Aside0.mk (ho); clear HO_11; clear ho hb hg hat))
                       go_roundg k4
                       case measure => have := HJ5.out; have := HK2.out; have := HK3.out; have := HK4.out; omega
                       case rel => exact ⟨(y324), (wrap64 (x13_3 + 1)), (y323), (.slice (some ⟨go51, 0, none⟩) x320001_3.length co51), (by first | rfl | (simp; done) | (simp [*]; done)), H', ⟨by have := HJ5.out; have := HK2.out; have := HK3.out; have := HK4.out; omega⟩, ⟨zr_ HO326.out⟩, ⟨zr_ (Kd.R_mono HO_320000.out (fun _ hk => hk.2))⟩, ⟨zr_ HO_320001.out⟩, ⟨zb_ BK304⟩, ⟨zb_ BK305⟩, ⟨zb_ BK319⟩, ⟨zw3_ HB GE304 GE305 GE319⟩⟩
                      ·rw [if_neg c52] at H
                       exact absurd H (by simp)
                     ·rw [if_neg c50] at H
                      exact absurd H (by simp)
                    ·rw [if_neg c49] at H
                     exact absurd H (by simp)
                   ·rw [if_neg c47] at H
                    exact absurd H (by simp)
                  ·rw [if_neg c46] at H
                   exact absurd H (by simp)
              ·rw [if_neg c36] at H
               have c36b0 : decide (x13_3 < (wrap64 (Int.tdiv (rd l0_0 1) a1))) = false := decide_eq_false c36
               clear c36
               have H' := Aside0.mk H
               clear H
               go_wp2
               go_roundg k3
               case measure => have := HJ5.out; have := HK2.out; have := HK3.out; omega
               case rel => exact ⟨(x11_3), (wrap64 (x12_2 + 1)), (x320001_3), (u320001), (by first | rfl | (simp; done) | (simp [*]; done)), H', ⟨by have := HJ5.out; have := HK2.out; have := HK3.out; omega⟩, ⟨zr_ HO_11.out⟩, ⟨zr_ HO_320000.out⟩, ⟨zr_ HO_320001.out⟩, ⟨zb_ BK304⟩, ⟨zb_ BK305⟩, ⟨zb_ BK319⟩, ⟨zw3_ HB GE304 GE305 GE319⟩⟩
           ·rw [if_neg c35] at H
            have c35b0 : decide (x12_2 < (rd l0_0 0)) = false := decide_eq_false c35
            clear c35
            simp only [Option.some.injEq, Prod.mk.injEq] at H
            obtain ⟨rfl, rfl, rfl, rfl⟩ := H
            have hnb56 := NB319_304.out
            have hnc56 := NB304_319.out
            have hnb57 := NB319_305.out
            have hnc57 := NB305_319.out
            have hcz58_0 := zx_ (v := .slice Ao30 t313.length co30) BK319 0
            have hcz58_1 := zx_ (v := u320001) BK319 1
            have hfz58_0 := blk_frozen BK319.out 0
            have hfz58_1 := blk_frozen BK319.out 1
            have hnb59 := NB305_304.out
            have hnc59 := NB304_305.out
            have hcz60_0 := zx_ (v := .slice none 0 0) BK305 0
            have hcz60_1 := zx_ (v := .slice none 0 0) BK305 1
            have hfz60_0 := blk_frozen BK305.out 0
            have hfz60_1 := blk_frozen BK305.out 1
            obtain ⟨Ao61, co61, eo61⟩ := Kd.R_slice HO_320001.out
            subst eo61
            go_wp2
            refine bodyPost_ret (results_ctt rfl _ _ gb305 25 #[.slice Ao30 t313.length co30, .slice Ao61 x320001_2.length co61] (0, 0) _ rfl (by (with_reducible repeat (first | refine blk_drewN ?_ _ | refine blk_drew ?_ | refine blk_alloc ?_ _)); refine blk_put (cs := #[.slice Ao30 t313.length co30, .slice none 0 0]) ?_ 1 _ rfl; (with_reducible repeat (first | refine blk_drewN ?_ _ | refine blk_drew ?_ | refine blk_alloc ?_ _)); refine blk_put (cs := #[.slice none 0 0, .slice none 0 0]) ?_ 0 _ rfl; (with_reducible repeat (first | refine blk_drewN ?_ _ | refine blk_drew ?_ | refine blk_alloc ?_ _)); exact BK305.out) Try.underlying25 rfl (by kernel_rfl)) rfl ?_
            exact ⟨_, _, _, by first | rfl | (simp [errW_none, errW_some] <;> rfl) | (simp [*, errW_none, errW_some] <;> rfl), zr_ (Kd.R_mono (Kd.R_far (p := ⟨gb305, 1, none⟩) (Kd.R_far (p := ⟨gb305, 0, none⟩) (Kd.R_types HO_320000.out BK305.out (by decide)) (fun _ hk => hk.2) (.slice Ao30 t313.length co30)) (fun _ hk => hk.2) (.slice Ao61 x320001_2.length co61)) (fun _ hk => hk.1)), zr_ (Kd.R_mono (Kd.R_far (p := ⟨gb305, 1, none⟩) (Kd.R_far (p := ⟨gb305, 0, none⟩) (Kd.R_types HO_320001.out BK305.out (by decide)) (fun _ hk => hk.2) (.slice Ao30 t313.length co30)) (fun _ hk => hk.2) (.slice Ao61 x320001_2.length co61)) (fun _ hk => trivial)), zr_ (Kd.R_mono (Kd.R_far (p := ⟨gb305, 1, none⟩) (Kd.R_far (p := ⟨gb305, 0, none⟩) (Kd.R_types HO_11.out BK305.out (by decide)) (fun _ hk => hk.2) (.slice Ao30 t313.length co30)) (fun _ hk => hk.2) (.slice Ao61 x320001_2.length co61)) (fun _ hk => hk.1)), zw3_ HB GE304 GE305 GE319⟩
       ·rw [if_neg c21] at H
        exact absurd H (by simp)
      ·rw [if_neg c20] at H
       exact absurd H (by simp)
  ·rw [if_neg c5] at H
   have c5b0 : ((l0_0.length : Int) == 2) = false := beq_eq_false_iff_ne.mpr c5
   have c5b1 : ((l0_0.length : Int) != 2) = true := bne_iff_ne.mpr c5
   simp only [Option.some.injEq, Prod.mk.injEq] at H
   obtain ⟨rfl, rfl, rfl, rfl⟩ := H
   go_enter Try.func20, Try.ntmps20
   go_wp2_with (first | ((with_reducible refine gate_dst (N := 2) rfl ?_); refine box_event ?hg (N := 2) ?hd (cs := #[.slice A0_0 l0_0.length c0_0, .slice A0_1 l0_1.length c0_1]) (t := 25) ?hr ?_; (case hd => rfl); (case hg => rfl); (case hr => first | (go_simp; done) | (go_simp; rfl)); intro gb304 hg w62 hbox hb; have BK304 := Aside0.mk (hbox); have GW304 := Aside0.mk (zs_ hg (zw0_ HB)); have GE304 := Aside0.mk (zs_ hg (zw0_ HB)); replace HB := Aside0.mk (below_step (zw0_ HB) hb); clear hb hbox hg) | ((with_reducible refine gate_dst (N := 4) rfl ?_); refine box_event ?hg (N := 4) ?hd (cs := #[.slice none 0 0, .slice none 0 0]) (t := 25) ?hr ?_; (case hd => rfl); (case hg => rfl); (case hr => first | (go_simp; done) | (go_simp; rfl)); intro gb305 hg w63 hbox hb; have BK305 := Aside0.mk (hbox); have GW305 := Aside0.mk (zs_ hg (zw1_ HB GE304)); have GE305 := Aside0.mk (zs_ hg (zw1_ HB GE304)); replace HB := Aside0.mk (below_step (zw1_ HB GE304) hb); have NB304_305 := Aside0.mk (zn_ hg BK304); have NB305_304 := Aside0.mk (zm_ hg BK304); replace BK304 := Aside0.mk (zl_ BK304 hb); clear hb hbox hg; have hnb64 := NB304_305.out; have hnc64 := NB305_304.out; have hcz65_0 := zx_ (v := .slice A0_0 l0_0.length c0_0) BK304 0; have hcz65_1 := zx_ (v := .slice A0_1 l0_1.length c0_1) BK304 1; have hfz65_0 := blk_frozen BK304.out 0; have hfz65_1 := blk_frozen BK304.out 1) | ((with_reducible refine gate_callee (f := 32) rfl ?_); refine zg_ (some 17) Try.func32 #[.agg #[.slice A0_0 l0_0.length c0_0, .slice A0_1 l0_1.length c0_1]] (h := ?_); (with_reducible refine (carouselref5_Is.calls k _ _ l0_0 _ _ l0_1 true _ ?side1 ?side2 ?side3 ?side4 A3.out).mono ?_); (case side1 => exact zk_ (Kd.C_below HR0_0.out HB.out)); (case side2 => exact HC0_0.out); (case side3 => exact zk_ (Kd.C_below HR0_1.out HB.out)); (case side4 => exact HC0_1.out); rintro e w66 ⟨rfl, hb⟩; refine ⟨_, rfl, ?_⟩; replace BK304 := Aside0.mk (zl_ BK304 hb); replace BK305 := Aside0.mk (zl_ BK305 hb); replace HB := Aside0.mk (below_step (zw2_ HB GE304 GE305) hb); (try clear hb); have hcz67_0 := zx_ (v := .slice A0_0 l0_0.length c0_0) BK304 0; have hcz67_1 := zx_ (v := .slice A0_1 l0_1.length c0_1) BK304 1; have hfz67_0 := blk_frozen BK304.out 0; have hfz67_1 := blk_frozen BK304.out 1; have hcz68_0 := zx_ (v := .slice none 0 0) BK305 0; have hcz68_1 := zx_ (v := .slice none 0 0) BK305 1; have hfz68_0 := blk_frozen BK305.out 0; have hfz68_1 := blk_frozen BK305.out 1))
   refine bodyPost_ret (results_ctt rfl _ _ gb305 25 #[.slice none 0 0, .slice none 0 0] (0, 0) _ rfl (by (with_reducible repeat (first | refine blk_drewN ?_ _ | refine blk_drew ?_ | refine blk_alloc ?_ _)); refine blk_put (cs := #[.slice none 0 0, .slice none 0 0]) ?_ 1 _ rfl; (with_reducible repeat (first | refine blk_drewN ?_ _ | refine blk_drew ?_ | refine blk_alloc ?_ _)); refine blk_put (cs := #[.slice none 0 0, .slice none 0 0]) ?_ 0 _ rfl; (with_reducible repeat (first | refine blk_drewN ?_ _ | refine blk_drew ?_ | refine blk_alloc ?_ _)); exact BK305.out) Try.underlying25 rfl (by kernel_rfl)) rfl ?_
   exact ⟨_, _, _, by first | rfl | (simp [errW_none, errW_some] <;> rfl) | (simp [*, errW_none, errW_some] <;> rfl), by first | exact Kd.R_nil _ _ _ _ _ | exact Kd.N_nil _ _ _ _ _ | exact Kd.V_nil _ _ _ _ _ | exact Kd.Q_nil _ _ _ _ _ | exact Kd.S_nil _ _ _ _ _, by first | exact Kd.R_nil _ _ _ _ _ | exact Kd.N_nil _ _ _ _ _ | exact Kd.V_nil _ _ _ _ _ | exact Kd.Q_nil _ _ _ _ _ | exact Kd.S_nil _ _ _ _ _, by first | exact Kd.R_nil _ _ _ _ _ | exact Kd.N_nil _ _ _ _ _ | exact Kd.V_nil _ _ _ _ _ | exact Kd.Q_nil _ _ _ _ _ | exact Kd.S_nil _ _ _ _ _, zw2_ HB GE304 GE305⟩
 ·replace c4 := Bool.eq_false_iff.mpr c4
  subst c4
  have H1 := H
  rw [if_neg (show ¬ (false = true) by decide)] at H1
  clear H
  have H := H1
  clear H1
  simp only [Option.some.injEq, Prod.mk.injEq] at H
  obtain ⟨rfl, rfl, rfl, rfl⟩ := H
  go_enter Try.func20, Try.ntmps20
  go_wp2_with (first | ((with_reducible refine gate_dst (N := 2) rfl ?_); refine box_event ?hg (N := 2) ?hd (cs := #[.slice A0_0 l0_0.length c0_0, .slice A0_1 l0_1.length c0_1]) (t := 25) ?hr ?_; (case hd => rfl); (case hg => rfl); (case hr => first | (go_simp; done) | (go_simp; rfl)); intro gb304 hg w69 hbox hb; have BK304 := Aside0.mk (hbox); have GW304 := Aside0.mk (zs_ hg (zw0_ HB)); have GE304 := Aside0.mk (zs_ hg (zw0_ HB)); replace HB := Aside0.mk (below_step (zw0_ HB) hb); clear hb hbox hg) | ((with_reducible refine gate_dst (N := 4) rfl ?_); refine box_event ?hg (N := 4) ?hd (cs := #[.slice none 0 0, .slice none 0 0]) (t := 25) ?hr ?_; (case hd => rfl); (case hg => rfl); (case hr => first | (go_simp; done) | (go_simp; rfl)); intro gb305 hg w70 hbox hb; have BK305 := Aside0.mk (hbox); have GW305 := Aside0.mk (zs_ hg (zw1_ HB GE304)); have GE305 := Aside0.mk (zs_ hg (zw1_ HB GE304)); replace HB := Aside0.mk (below_step (zw1_ HB GE304) hb); have NB304_305 := Aside0.mk (zn_ hg BK304); have NB305_304 := Aside0.mk (zm_ hg BK304); replace BK304 := Aside0.mk (zl_ BK304 hb); clear hb hbox hg; have hnb71 := NB304_305.out; have hnc71 := NB305_304.out; have hcz72_0 := zx_ (v := .slice A0_0 l0_0.length c0_0) BK304 0; have hcz72_1 := zx_ (v := .slice A0_1 l0_1.length c0_1) BK304 1; have hfz72_0 := blk_frozen BK304.out 0; have hfz72_1 := blk_frozen BK304.out 1) | ((with_reducible refine gate_callee (f := 32) rfl ?_); refine zg_ (some 17) Try.func32 #[.agg #[.slice A0_0 l0_0.length c0_0, .slice A0_1 l0_1.length c0_1]] (h := ?_); (with_reducible refine (carouselref5_Is.calls k _ _ l0_0 _ _ l0_1 false _ ?side1 ?side2 ?side3 ?side4 A3.out).mono ?_); (case side1 => exact zk_ (Kd.C_below HR0_0.out HB.out)); (case side2 => exact HC0_0.out); (case side3 => exact zk_ (Kd.C_below HR0_1.out HB.out)); (case side4 => exact HC0_1.out); rintro e w73 ⟨rfl, hb⟩; refine ⟨_, rfl, ?_⟩; replace BK304 := Aside0.mk (zl_ BK304 hb); replace BK305 := Aside0.mk (zl_ BK305 hb); replace HB := Aside0.mk (below_step (zw2_ HB GE304 GE305) hb); (try clear hb); have hcz74_0 := zx_ (v := .slice none 0 0) BK305 0; have hcz74_1 := zx_ (v := .slice none 0 0) BK305 1; have hfz74_0 := blk_frozen BK305.out 0; have hfz74_1 := blk_frozen BK305.out 1))
  refine bodyPost_ret (results_ctt rfl _ _ gb305 25 #[.slice none 0 0, .slice none 0 0] (0, 0) _ rfl (by (with_reducible repeat (first | refine blk_drewN ?_ _ | refine blk_drew ?_ | refine blk_alloc ?_ _)); refine blk_put (cs := #[.slice none 0 0, .slice none 0 0]) ?_ 1 _ rfl; (with_reducible repeat (first | refine blk_drewN ?_ _ | refine blk_drew ?_ | refine blk_alloc ?_ _)); refine blk_put (cs := #[.slice none 0 0, .slice none 0 0]) ?_ 0 _ rfl; (with_reducible repeat (first | refine blk_drewN ?_ _ | refine blk_drew ?_ | refine blk_alloc ?_ _)); exact BK305.out) Try.underlying25 rfl (by kernel_rfl)) rfl ?_
  exact ⟨_, _, _, by first | rfl | (simp [errW_none, errW_some] <;> rfl) | (simp [*, errW_none, errW_some] <;> rfl), by first | exact Kd.R_nil _ _ _ _ _ | exact Kd.N_nil _ _ _ _ _ | exact Kd.V_nil _ _ _ _ _ | exact Kd.Q_nil _ _ _ _ _ | exact Kd.S_nil _ _ _ _ _, by first | exact Kd.R_nil _ _ _ _ _ | exact Kd.N_nil _ _ _ _ _ | exact Kd.V_nil _ _ _ _ _ | exact Kd.Q_nil _ _ _ _ _ | exact Kd.S_nil _ _ _ _ _, by first | exact Kd.R_nil _ _ _ _ _ | exact Kd.N_nil _ _ _ _ _ | exact Kd.V_nil _ _ _ _ _ | exact Kd.Q_nil _ _ _ _ _ | exact Kd.S_nil _ _ _ _ _, zw2_ HB GE304 GE305⟩

end Go.Proofs.Ytcipfhlcgnomaaa.PConvPools
