/- The functions that the law TensEach reaches, as Lean functions, and that each call of the Go function does what its Lean function says, wherever that one answers. Written by a program of mine over the print of the kit; Lean checks it. -/
import Derived.Test.YtbdhabpplidgfaaPTensEachx0
import Derived.Test.YtbdhabpplidgfaaPTensEachx6
import Derived.Test.YtbdhabpplidgfaaPTensEachx11
import Derived.Test.YtbdhabpplidgfaaPTensEachx12
import Derived.Test.YtbdhabpplidgfaaPTensEachx13
import Derived.Test.YtbdhabpplidgfaaPTensEachx15
namespace Go.Proofs.Ytbdhabpplidgfaa.PTensEach
open Go.RowKit Go.Proofs.YtbdhabpplidgfaaW.PrintWords Go.Proofs.YtbdhabpplidgfaaW.PrintLast Go.Proofs.YtbdhabpplidgfaaW.PrintMore
attribute [local go_sem] max2_int min2_int max_two min_two max_three min_three max_four min_four   -- for this text's walks alone
set_option linter.unusedVariables false
set_option linter.unusedSimpArgs false

/-! ### carouselref5_Each: function 24 -/
mutual
def carouselref5_Each.j0 : Nat → Int → Bool → List Int → List Int → List Int → List Int → Option (List Int × List Int × Int)
 | 0, _, _, _, _, _, _ => none
 | k + 1, x0, x23, x480000, x480001, x481000, x481001 => if x23 = true then (some (([] : List Int), ([] : List Int), 1)) else ((carouselref5_Join.f k x480000 x481000).bind fun bt484 => (if bt484.2 = 0 then ((carouselref5_New.f k bt484.1 0).bind fun bt488 => (carouselref5_Each.l0 k x0 bt484.1 0 x480000 x480001 x481000 x481001 bt488.1 bt488.2)) else (some (([] : List Int), ([] : List Int), bt484.2))))
def carouselref5_Each.l0 : Nat → Int → List Int → Int → List Int → List Int → List Int → List Int → List Int → List Int → Option (List Int × List Int × Int)
 | 0, _, _, _, _, _, _, _, _, _ => none
 | k + 1, x0, x8, x11, x480000, x480001, x481000, x481001, x495000, x495001 => if x11 < (x495001.length : Int) then ((carouselref5_From.f k x480000 x8 x11).bind fun bt495 => ((carouselref5_From.f k x481000 x8 x11).bind fun bt497 => (if x0 = 0 then (if 0 ≤ bt495.1 then (if bt495.1 < (x480001.length : Int) then (if 0 ≤ bt497.1 then (if bt497.1 < (x481001.length : Int) then ((carouselref1_Add.f k (rd x480001 bt495.1) (rd x481001 bt497.1)).bind fun t501 => (if 0 ≤ x11 then (carouselref5_Each.l0 k x0 x8 (wrap64 (x11 + 1)) x480000 x480001 x481000 x481001 x495000 (x495001.set (x11 : Int).toNat t501)) else (none))) else (none)) else (none)) else (none)) else (none)) else (if x0 = 1 then (if 0 ≤ bt495.1 then (if bt495.1 < (x480001.length : Int) then (if 0 ≤ bt497.1 then (if bt497.1 < (x481001.length : Int) then ((carouselref1_Sub.f k (rd x480001 bt495.1) (rd x481001 bt497.1)).bind fun t505 => (if 0 ≤ x11 then (carouselref5_Each.l0 k x0 x8 (wrap64 (x11 + 1)) x480000 x480001 x481000 x481001 x495000 (x495001.set (x11 : Int).toNat t505)) else (none))) else (none)) else (none)) else (none)) else (none)) else (if 0 ≤ bt495.1 then (if bt495.1 < (x480001.length : Int) then (if 0 ≤ bt497.1 then (if bt497.1 < (x481001.length : Int) then ((carouselref1_Mul.f k (rd x480001 bt495.1) (rd x481001 bt497.1)).bind fun t509 => (if 0 ≤ x11 then (carouselref5_Each.l0 k x0 x8 (wrap64 (x11 + 1)) x480000 x480001 x481000 x481001 x495000 (x495001.set (x11 : Int).toNat t509)) else (none))) else (none)) else (none)) else (none)) else (none)))))) else (some (x495000, x495001, 0))
end
def carouselref5_Each.f (k : Nat) (a0 : Int) (l1_0 : List Int) (l1_1 : List Int) (l2_0 : List Int) (l2_1 : List Int) : Option (List Int × List Int × Int) := (carouselref5_Is.f k l1_0 l1_1).bind fun t482 => (if t482 = true then ((carouselref5_Is.f k l2_0 l2_1).bind fun t483 => (carouselref5_Each.j0 k a0 (!t483) l1_0 l1_1 l2_0 l2_1)) else (carouselref5_Each.j0 k a0 true l1_0 l1_1 l2_0 l2_1))
theorem carouselref5_Each.mono_l : ∀ k, (∀ y0 y1 y2 y3 y4 y5, LeO (carouselref5_Each.j0 k y0 y1 y2 y3 y4 y5) (carouselref5_Each.j0 (k + 1) y0 y1 y2 y3 y4 y5)) ∧ (∀ y0 y1 y2 y3 y4 y5 y6 y7 y8, LeO (carouselref5_Each.l0 k y0 y1 y2 y3 y4 y5 y6 y7 y8) (carouselref5_Each.l0 (k + 1) y0 y1 y2 y3 y4 y5 y6 y7 y8))
 | 0 => ⟨fun _ _ _ _ _ _ r h => by simp [carouselref5_Each.j0] at h, fun _ _ _ _ _ _ _ _ _ r h => by simp [carouselref5_Each.l0] at h⟩
 | k + 1 => by
  obtain ⟨ih0, ih1⟩ := carouselref5_Each.mono_l k
  refine ⟨?_, ?_⟩
  ·intro y0 y1 y2 y3 y4 y5
   unfold carouselref5_Each.j0
   repeat' first
   | (with_reducible exact ih0 _ _ _ _ _ _)
   | (with_reducible exact ih1 _ _ _ _ _ _ _ _ _)
   | (with_reducible exact carouselref5_Join.mono _ _ _)
   | (with_reducible exact carouselref5_New.mono _ _ _)
   | (with_reducible exact LeO.refl _)
   | (with_reducible exact LeO.none _)
   | (with_reducible refine LeO.ite ?_ ?_)
   | (with_reducible refine LeO.bind ?_ (fun _ => ?_))
   | exact ih0 _ _ _ _ _ _
   | exact ih1 _ _ _ _ _ _ _ _ _
   | exact carouselref5_Join.mono _ _ _
   | exact carouselref5_New.mono _ _ _
   | exact LeO.none _
   | refine LeO.ite ?_ ?_
   | refine LeO.bind ?_ (fun _ => ?_)
  ·intro y0 y1 y2 y3 y4 y5 y6 y7 y8
   unfold carouselref5_Each.l0
   repeat' first
   | (with_reducible exact ih0 _ _ _ _ _ _)
   | (with_reducible exact ih1 _ _ _ _ _ _ _ _ _)
   | (with_reducible exact carouselref1_Add.mono _ _ _)
   | (with_reducible exact carouselref1_Mul.mono _ _ _)
   | (with_reducible exact carouselref1_Sub.mono _ _ _)
   | (with_reducible exact carouselref5_From.mono _ _ _ _)
   | (with_reducible exact LeO.refl _)
   | (with_reducible exact LeO.none _)
   | (with_reducible refine LeO.ite ?_ ?_)
   | (with_reducible refine LeO.bind ?_ (fun _ => ?_))
   | exact ih0 _ _ _ _ _ _
   | exact ih1 _ _ _ _ _ _ _ _ _
   | exact carouselref1_Add.mono _ _ _
   | exact carouselref1_Mul.mono _ _ _
   | exact carouselref1_Sub.mono _ _ _
   | exact carouselref5_From.mono _ _ _ _
   | exact LeO.none _
   | refine LeO.ite ?_ ?_
   | refine LeO.bind ?_ (fun _ => ?_)
theorem carouselref5_Each.mono : ∀ a0 a1 a2 a3 a4 k, LeO (carouselref5_Each.f k a0 a1 a2 a3 a4) (carouselref5_Each.f (k + 1) a0 a1 a2 a3 a4) := by
 intro a0 a1 a2 a3 a4 k
 obtain ⟨ih0, ih1⟩ := carouselref5_Each.mono_l k
 unfold carouselref5_Each.f
 repeat' first
   | (with_reducible exact ih0 _ _ _ _ _ _)
   | (with_reducible exact ih1 _ _ _ _ _ _ _ _ _)
   | (with_reducible exact carouselref5_Is.mono _ _ _)
   | (with_reducible exact LeO.refl _)
   | (with_reducible exact LeO.none _)
   | (with_reducible refine LeO.ite ?_ ?_)
   | (with_reducible refine LeO.bind ?_ (fun _ => ?_))
   | exact ih0 _ _ _ _ _ _
   | exact ih1 _ _ _ _ _ _ _ _ _
   | exact carouselref5_Is.mono _ _ _
   | exact LeO.none _
   | refine LeO.ite ?_ ?_
   | refine LeO.bind ?_ (fun _ => ?_)
def carouselref5_Each.T13 : Bool × List (List Nat × List Nat) := (true, [([], []), ([0], [0]), ([], []), ([], []), ([3], [3]), ([], []), ([4, 5], [4, 5]), ([6], [6]), ([], []), ([8], [8]), ([], []), ([9, 10], [9, 10]), ([11], [11]), ([7, 12], [7, 12]), ([1, 2, 0, 1, 2, 3, 4, 5, 6, 7, 8, 9, 10, 11, 12, 13], [1, 2]), ([14, 13, 13, 0, 1, 2, 3, 4, 5, 6, 7, 8, 9, 10, 11, 12, 13], [13, 14])])
def carouselref5_Each.B13 : List Nat := [0, 1, 0, 0, 8, 0, 56, 120, 0, 256, 0, 1792, 3840, 8184, 16383, 32767]
theorem carouselref5_Each.tab13 : rtab .any (opsOf Try.f24 13) = carouselref5_Each.T13 := by kernel_rfl
theorem carouselref5_Each.bits13 : waitsOk carouselref5_Each.T13.2 carouselref5_Each.B13 = true := by kernel_rfl
def carouselref5_Each.T15 : Bool × List (List Nat × List Nat) := (true, [([], []), ([0], [0]), ([], []), ([], []), ([3], [3]), ([], []), ([4, 5], [4, 5]), ([6], [6]), ([], []), ([8], [8]), ([], []), ([9, 10], [9, 10]), ([11], [11]), ([7, 12], [7, 12]), ([1, 2, 0, 1, 2, 3, 4, 5, 6, 7, 8, 9, 10, 11, 12, 13], [1, 2]), ([14, 13, 13, 0, 1, 2, 3, 4, 5, 6, 7, 8, 9, 10, 11, 12, 13], [13, 14])])
def carouselref5_Each.B15 : List Nat := [0, 1, 0, 0, 8, 0, 56, 120, 0, 256, 0, 1792, 3840, 8184, 16383, 32767]
theorem carouselref5_Each.tab15 : rtab .any (opsOf Try.f24 15) = carouselref5_Each.T15 := by kernel_rfl
theorem carouselref5_Each.bits15 : waitsOk carouselref5_Each.T15.2 carouselref5_Each.B15 = true := by kernel_rfl
def carouselref5_Each.T17 : Bool × List (List Nat × List Nat) := (true, [([], []), ([0], [0]), ([], []), ([], []), ([3], [3]), ([], []), ([4, 5], [4, 5]), ([6], [6]), ([], []), ([8], [8]), ([], []), ([9, 10], [9, 10]), ([11], [11]), ([7, 12], [7, 12]), ([1, 2, 0, 1, 2, 3, 4, 5, 6, 7, 8, 9, 10, 11, 12, 13], [1, 2]), ([14, 13, 13, 0, 1, 2, 3, 4, 5, 6, 7, 8, 9, 10, 11, 12, 13], [13, 14])])
def carouselref5_Each.B17 : List Nat := [0, 1, 0, 0, 8, 0, 56, 120, 0, 256, 0, 1792, 3840, 8184, 16383, 32767]
theorem carouselref5_Each.tab17 : rtab .any (opsOf Try.f24 17) = carouselref5_Each.T17 := by kernel_rfl
theorem carouselref5_Each.bits17 : waitsOk carouselref5_Each.T17.2 carouselref5_Each.B17 = true := by kernel_rfl
set_option maxHeartbeats 8000000 in
set_option maxRecDepth 100000 in
theorem carouselref5_Each.calls (k : Nat) (a0 : Int) (A1_0 : Option Addr) (c1_0 : Nat) (l1_0 : List Int) (A1_1 : Option Addr) (c1_1 : Nat) (l1_1 : List Int) (A2_0 : Option Addr) (c2_0 : Nat) (l2_0 : List Int) (A2_1 : Option Addr) (c2_1 : Nat) (l2_1 : List Int) (r1 : List Int) (r2 : List Int) (r3 : Int) (w : World) (hr1_0 : Kd.C (Kd.int .i64) w A1_0 l1_0.length l1_0) (hc1_0 : l1_0.length ≤ c1_0) (hr1_1 : Kd.C (Kd.int .i64) w A1_1 l1_1.length l1_1) (hc1_1 : l1_1.length ≤ c1_1) (hr2_0 : Kd.C (Kd.int .i64) w A2_0 l2_0.length l2_0) (hc2_0 : l2_0.length ≤ c2_0) (hr2_1 : Kd.C (Kd.int .i64) w A2_1 l2_1.length l2_1) (hc2_1 : l2_1.length ≤ c2_1) (h : carouselref5_Each.f k a0 l1_0 l1_1 l2_0 l2_1 = some (r1, r2, r3)) :
  Calls Try.prog 24 #[.int .i64 a0, .agg #[.slice A1_0 l1_0.length c1_0, .slice A1_1 l1_1.length c1_1], .agg #[.slice A2_0 l2_0.length c2_0, .slice A2_1 l2_1.length c2_1]] w fun e w' => ∃ v0_ v1_ : Value, e = .returned (.tuple #[.agg #[v0_, v1_], .int .i64 r3]) ∧ Kd.R (Kd.int .i64) 3 w' w.heap.size (fun _ => True) v0_ r1 ∧ Kd.R (Kd.int .i64) 23 w' w.heap.size (fun _ => True) v1_ r2 ∧ Below w.heap.size w w' := by
 have hu27 := Try.underlying27
 have HR1_0 := Aside0.mk hr1_0
 have HC1_0 := Aside0.mk hc1_0
 clear hr1_0 hc1_0
 have HR1_1 := Aside0.mk hr1_1
 have HC1_1 := Aside0.mk hc1_1
 clear hr1_1 hc1_1
 have HR2_0 := Aside0.mk hr2_0
 have HC2_0 := Aside0.mk hc2_0
 clear hr2_0 hc2_0
 have HR2_1 := Aside0.mk hr2_1
 have HC2_1 := Aside0.mk hc2_1
 clear hr2_1 hc2_1
 have HB := Aside0.mk (Below.refl w.heap.size w)
 have H : ((carouselref5_Is.f k l1_0 l1_1).bind fun t482 => (if t482 = true then ((carouselref5_Is.f k l2_0 l2_1).bind fun t483 => (carouselref5_Each.j0 k a0 (!t483) l1_0 l1_1 l2_0 l2_1)) else (carouselref5_Each.j0 k a0 true l1_0 l1_1 l2_0 l2_1))) = some (r1, r2, r3) := h
 clear h
 have HC4 := Aside0.mk H
 clear H
 go_enter Try.func24, Try.ntmps24
 go_upto_region 1 with (first | ((with_reducible refine gate_dst (N := 4) rfl ?_); refine box_event ?hg (N := 4) ?hd (cs := #[.slice A1_0 l1_0.length c1_0, .slice A1_1 l1_1.length c1_1]) (t := 27) ?hr ?_; (case hd => rfl); (case hg => rfl); (case hr => first | (go_simp; done) | (go_simp; rfl)); intro gb479 hg w5 hbox hb; have n0_ := Aside0.mk (below_step (zw0_ HB) hb); have n1_ := Aside0.mk (hbox); have n2_ := Aside0.mk (zs_ hg (zw0_ HB)); have n3_ := Aside0.mk (zs_ hg (zw0_ HB)); clear HB; have HB := n0_; have BK479 := n1_; have GW479 := n2_; have GE479 := n3_; clear n0_ n1_ n2_ n3_; clear hb hbox hg) | ((with_reducible refine gate_dst (N := 5) rfl ?_); refine box_event ?hg (N := 5) ?hd (cs := #[.slice A2_0 l2_0.length c2_0, .slice A2_1 l2_1.length c2_1]) (t := 27) ?hr ?_; (case hd => rfl); (case hg => rfl); (case hr => first | (go_simp; done) | (go_simp; rfl)); intro gb480 hg w6 hbox hb; have n0_ := Aside0.mk (zl_ BK479 hb); have n1_ := Aside0.mk (below_step (zw1_ HB GE479) hb); have n2_ := Aside0.mk (hbox); have n3_ := Aside0.mk (zs_ hg (zw1_ HB GE479)); have n4_ := Aside0.mk (zs_ hg (zw1_ HB GE479)); have n5_ := Aside0.mk (zn_ hg BK479); have n6_ := Aside0.mk (zm_ hg BK479); clear BK479 HB; have BK479 := n0_; have HB := n1_; have BK480 := n2_; have GW480 := n3_; have GE480 := n4_; have NB479_480 := n5_; have NB480_479 := n6_; clear n0_ n1_ n2_ n3_ n4_ n5_ n6_; clear hb hbox hg) | ((with_reducible refine gate_dst (N := 6) rfl ?_); refine box_event ?hg (N := 6) ?hd (cs := #[.slice none 0 0, .slice none 0 0]) (t := 27) ?hr ?_; (case hd => rfl); (case hg => rfl); (case hr => first | (go_simp; done) | (go_simp; rfl)); intro gb481 hg w7 hbox hb; have n0_ := Aside0.mk (zl_ BK479 hb); have n1_ := Aside0.mk (zl_ BK480 hb); have n2_ := Aside0.mk (below_step (zw2_ HB GE479 GE480) hb); have n3_ := Aside0.mk (hbox); have n4_ := Aside0.mk (zs_ hg (zw2_ HB GE479 GE480)); have n5_ := Aside0.mk (zs_ hg (zw2_ HB GE479 GE480)); have n6_ := Aside0.mk (zn_ hg BK479); have n7_ := Aside0.mk (zm_ hg BK479); have n8_ := Aside0.mk (zn_ hg BK480); have n9_ := Aside0.mk (zm_ hg BK480); clear BK479 BK480 HB; have BK479 := n0_; have BK480 := n1_; have HB := n2_; have BK481 := n3_; have GW481 := n4_; have GE481 := n5_; have NB479_481 := n6_; have NB481_479 := n7_; have NB480_481 := n8_; have NB481_480 := n9_; clear n0_ n1_ n2_ n3_ n4_ n5_ n6_ n7_ n8_ n9_; clear hb hbox hg))
 (try simp only [Act.put, List.setIfInBounds_toArray, List.set_cons_zero, List.set_cons_succ])
 go_cut [23] (fun v23 wc => ∃ (kq : Nat) (x23_3 : Bool), v23 = .bool x23_3 ∧ Aside0 (carouselref5_Each.j0 kq a0 x23_3 l1_0 l1_1 l2_0 l2_1 = some (r1, r2, r3)) ∧ Aside0 (kq ≤ k) ∧ Aside0 (wc.heap[gb479]? = some (.cells #[(.slice A1_0 l1_0.length c1_0), (.slice A1_1 l1_1.length c1_1)] 27 (0, 0))) ∧ Aside0 (wc.heap[gb480]? = some (.cells #[(.slice A2_0 l2_0.length c2_0), (.slice A2_1 l2_1.length c2_1)] 27 (0, 0))) ∧ Aside0 (wc.heap[gb481]? = some (.cells #[(.slice none 0 0), (.slice none 0 0)] 27 (0, 0))) ∧ Aside0 (Below w.heap.size w wc))
 case first =>
  have H := HC4.out
  clear HC4
  replace H := Option.bind_eq_some_iff.mp H
  obtain ⟨t482, A80, H⟩ := H
  (try dsimp only at H)
  have A8 := Aside0.mk A80
  clear A80
  by_cases c9 : t482 = true
  ·subst c9
   have H1 := H
   rw [if_pos rfl] at H1
   clear H
   have H := H1
   clear H1
   replace H := Option.bind_eq_some_iff.mp H
   obtain ⟨t483, A100, H⟩ := H
   replace H : (carouselref5_Each.j0 k a0 (!t483) l1_0 l1_1 l2_0 l2_1) = some (r1, r2, r3) := H
   have A10 := Aside0.mk A100
   clear A100
   have H' := Aside0.mk H
   clear H
   have hnb11 := NB479_480.out
   have hnc11 := NB480_479.out
   have hnb12 := NB479_481.out
   have hnc12 := NB481_479.out
   have hcz13_0 := zx_ (v := .slice A1_0 l1_0.length c1_0) BK479 0
   have hcz13_1 := zx_ (v := .slice A1_1 l1_1.length c1_1) BK479 1
   have hfz13_0 := blk_frozen BK479.out 0
   have hfz13_1 := blk_frozen BK479.out 1
   go_wp2_with (first | ((with_reducible refine gate_callee (f := 18) rfl ?_); refine zg_ (some 17) Try.func18 #[.agg #[.slice A1_0 l1_0.length c1_0, .slice A1_1 l1_1.length c1_1]] (h := ?_); (with_reducible refine (carouselref5_Is.calls k _ _ l1_0 _ _ l1_1 true _ ?side1 ?side2 ?side3 ?side4 A8.out).mono ?_); (case side1 => exact zk_ (Kd.C_below HR1_0.out HB.out)); (case side2 => exact HC1_0.out); (case side3 => exact zk_ (Kd.C_below HR1_1.out HB.out)); (case side4 => exact HC1_1.out); rintro e w14 ⟨rfl, hb⟩; refine ⟨_, rfl, ?_⟩; have n0_ := Aside0.mk (zl_ BK479 hb); have n1_ := Aside0.mk (zl_ BK480 hb); have n2_ := Aside0.mk (zl_ BK481 hb); have n3_ := Aside0.mk (below_step (zw3_ HB GE479 GE480 GE481) hb); clear BK479 BK480 BK481 HB; have BK479 := n0_; have BK480 := n1_; have BK481 := n2_; have HB := n3_; clear n0_ n1_ n2_ n3_; (try clear hb); (try clear hb2); (try clear hk); (try clear hi); have hnb15 := NB480_481.out; have hnc15 := NB481_480.out; have hcz16_0 := zx_ (v := .slice A2_0 l2_0.length c2_0) BK480 0; have hcz16_1 := zx_ (v := .slice A2_1 l2_1.length c2_1) BK480 1; have hfz16_0 := blk_frozen BK480.out 0; have hfz16_1 := blk_frozen BK480.out 1) | (go_at_call 18; (with_reducible refine (carouselref5_Is.calls k _ _ l2_0 _ _ l2_1 t483 _ ?side1 ?side2 ?side3 ?side4 A10.out).mono ?_); (case side1 => exact zk_ (Kd.C_below HR2_0.out HB.out)); (case side2 => exact HC2_0.out); (case side3 => exact zk_ (Kd.C_below HR2_1.out HB.out)); (case side4 => exact HC2_1.out); rintro e w17 ⟨rfl, hb⟩; have n0_ := Aside0.mk (zl_ BK479 hb); have n1_ := Aside0.mk (zl_ BK480 hb); have n2_ := Aside0.mk (zl_ BK481 hb); have n3_ := Aside0.mk (below_step (zw3_ HB GE479 GE480 GE481) hb); clear BK479 BK480 BK481 HB; have BK479 := n0_; have BK480 := n1_; have BK481 := n2_; have HB := n3_; clear n0_ n1_ n2_ n3_; (try clear hb); (try clear hb2); (try clear hk); (try clear hi)))
   go_meet
   case rel => exact ⟨_, (!t483), (by first | rfl | (simp; done) | (simp [*]; done)), H', ⟨by first | omega | exact Nat.le_refl _⟩, ⟨zb_ BK479⟩, ⟨zb_ BK480⟩, ⟨zb_ BK481⟩, ⟨zw3_ HB GE479 GE480 GE481⟩⟩
  ·replace c9 := Bool.eq_false_iff.mpr c9
   subst c9
   have H1 : (carouselref5_Each.j0 k a0 true l1_0 l1_1 l2_0 l2_1) = some (r1, r2, r3) := by rw [if_neg (show ¬ (false = true) by decide)] at H; exact H
   clear H
   have H := H1
   clear H1
   have H' := Aside0.mk H
   clear H
   have hnb18 := NB479_480.out
   have hnc18 := NB480_479.out
   have hnb19 := NB479_481.out
   have hnc19 := NB481_479.out
   have hcz20_0 := zx_ (v := .slice A1_0 l1_0.length c1_0) BK479 0
   have hcz20_1 := zx_ (v := .slice A1_1 l1_1.length c1_1) BK479 1
   have hfz20_0 := blk_frozen BK479.out 0
   have hfz20_1 := blk_frozen BK479.out 1
   go_wp2_with (first | ((with_reducible refine gate_callee (f := 18) rfl ?_); refine zg_ (some 17) Try.func18 #[.agg #[.slice A1_0 l1_0.length c1_0, .slice A1_1 l1_1.length c1_1]] (h := ?_); (with_reducible refine (carouselref5_Is.calls k _ _ l1_0 _ _ l1_1 false _ ?side1 ?side2 ?side3 ?side4 A8.out).mono ?_); (case side1 => exact zk_ (Kd.C_below HR1_0.out HB.out)); (case side2 => exact HC1_0.out); (case side3 => exact zk_ (Kd.C_below HR1_1.out HB.out)); (case side4 => exact HC1_1.out); rintro e w21 ⟨rfl, hb⟩; refine ⟨_, rfl, ?_⟩; have n0_ := Aside0.mk (zl_ BK479 hb); have n1_ := Aside0.mk (zl_ BK480 hb); have n2_ := Aside0.mk (zl_ BK481 hb); have n3_ := Aside0.mk (below_step (zw3_ HB GE479 GE480 GE481) hb); clear BK479 BK480 BK481 HB; have BK479 := n0_; have BK480 := n1_; have BK481 := n2_; have HB := n3_; clear n0_ n1_ n2_ n3_; (try clear hb); (try clear hb2); (try clear hk); (try clear hi)))
   go_meet
   case rel => exact ⟨_, (true), (by first | rfl | (simp; done) | (simp [*]; done)), H', ⟨by first | omega | exact Nat.le_refl _⟩, ⟨zb_ BK479⟩, ⟨zb_ BK480⟩, ⟨zb_ BK481⟩, ⟨zw3_ HB GE479 GE480 GE481⟩⟩
 case rest =>
  clear HC4
  try clear c1
  try clear c2
  try clear p2
  try clear c9
  try clear c11
  try clear c12
  try clear c15
  try clear c18
  try clear c19
  try clear hcz13_0
  try clear hcz13_1
  try clear hcz16_0
  try clear hcz16_1
  try clear hcz20_0
  try clear hcz20_1
  try clear hfz13_0
  try clear hfz13_1
  try clear hfz16_0
  try clear hfz16_1
  try clear hfz20_0
  try clear hfz20_1
  obtain ⟨kq, x23_3, rfl, HA, HJ3, BK479, BK480, BK481, HB⟩ := hcut
  cases kq with
  | zero => exact absurd HA.out (by simp [carouselref5_Each.j0])
  | succ kj3 =>
   have H := HA.out
   clear HA
   simp only [carouselref5_Each.j0] at H
   by_cases c22 : x23_3 = true
   ·subst c22
    have H1 : (some (([] : List Int), ([] : List Int), 1)) = some (r1, r2, r3) := by rw [if_pos rfl] at H; exact H
    clear H
    have H := H1
    clear H1
    simp only [Option.some.injEq, Prod.mk.injEq] at H
    obtain ⟨rfl, rfl, rfl⟩ := H
    have hnb23 := NB481_479.out
    have hnc23 := NB479_481.out
    have hnb24 := NB481_480.out
    have hnc24 := NB480_481.out
    have hcz25_0 := zx_ (v := .slice none 0 0) BK481 0
    have hcz25_1 := zx_ (v := .slice none 0 0) BK481 1
    have hfz25_0 := blk_frozen BK481.out 0
    have hfz25_1 := blk_frozen BK481.out 1
    go_wp2
    refine bodyPost_ret (results_ct rfl _ _ gb481 27 #[.slice none 0 0, .slice none 0 0] (0, 0) _ rfl (by (with_reducible repeat (first | refine blk_drewN ?_ _ | refine blk_drew ?_ | refine blk_alloc ?_ _)); refine blk_put (cs := #[.slice none 0 0, .slice none 0 0]) ?_ 1 _ rfl; (with_reducible repeat (first | refine blk_drewN ?_ _ | refine blk_drew ?_ | refine blk_alloc ?_ _)); refine blk_put (cs := #[.slice none 0 0, .slice none 0 0]) ?_ 0 _ rfl; (with_reducible repeat (first | refine blk_drewN ?_ _ | refine blk_drew ?_ | refine blk_alloc ?_ _)); exact BK481.out) Try.underlying27 rfl (by kernel_rfl)) rfl ?_
    exact ⟨_, _, by first | rfl | (simp [errW_none, errW_some] <;> rfl) | (simp [*, errW_none, errW_some] <;> rfl), by first | exact Kd.R_nil _ _ _ _ _ | exact Kd.N_nil _ _ _ _ _ | exact Kd.V_nil _ _ _ _ _ | exact Kd.Q_nil _ _ _ _ _ | exact Kd.S_nil _ _ _ _ _, by first | exact Kd.R_nil _ _ _ _ _ | exact Kd.N_nil _ _ _ _ _ | exact Kd.V_nil _ _ _ _ _ | exact Kd.Q_nil _ _ _ _ _ | exact Kd.S_nil _ _ _ _ _, zw3_ HB GE479 GE480 GE481⟩
   ·replace c22 := Bool.eq_false_iff.mpr c22
    subst c22
    have H1 := H
    rw [if_neg (show ¬ (false = true) by decide)] at H1
    clear H
    have H := H1
    clear H1
    replace H := Option.bind_eq_some_iff.mp H
    obtain ⟨⟨t484, t485⟩, A260, H⟩ := H
    (try dsimp only at H)
    have A26 := Aside0.mk A260
    clear A260
    by_cases c27 : t485 = 0
    ·rw [if_pos c27] at H
     have c27b0 : (t485 == 0) = true := beq_iff_eq.mpr c27
     have c27b1 : (t485 != 0) = false := bne_eq_false_iff_eq.mpr c27
     clear c27
     replace H := Option.bind_eq_some_iff.mp H
     obtain ⟨⟨t488, t491⟩, A280, H⟩ := H
     replace H : (carouselref5_Each.l0 kj3 a0 t484 0 l1_0 l1_1 l2_0 l2_1 t488 t491) = some (r1, r2, r3) := H
     have A28 := Aside0.mk A280
     clear A280
     have H' := Aside0.mk H
     clear H
     have hnb29 := NB479_480.out
     have hnc29 := NB480_479.out
     have hnb30 := NB479_481.out
     have hnc30 := NB481_479.out
     have hcz31_0 := zx_ (v := .slice A1_0 l1_0.length c1_0) BK479 0
     have hcz31_1 := zx_ (v := .slice A1_1 l1_1.length c1_1) BK479 1
     have hfz31_0 := blk_frozen BK479.out 0
     have hfz31_1 := blk_frozen BK479.out 1
     have hnb32 := NB480_481.out
     have hnc32 := NB481_480.out
     have hcz33_0 := zx_ (v := .slice A2_0 l2_0.length c2_0) BK480 0
     have hcz33_1 := zx_ (v := .slice A2_1 l2_1.length c2_1) BK480 1
     have hfz33_0 := blk_frozen BK480.out 0
     have hfz33_1 := blk_frozen BK480.out 1
     go_wp2_with (first | ((with_reducible refine gate_callee (f := 46) rfl ?_); refine zg_ (some 30) Try.func46 #[.slice A1_0 l1_0.length c1_0, .slice A2_0 l2_0.length c2_0] (h := ?_); (with_reducible refine (carouselref5_Join.calls kj3 _ _ l1_0 _ _ l2_0 t484 t485 _ ?side1 ?side2 ?side3 ?side4 A26.out).mono ?_); (case side1 => exact zk_ (Kd.C_below HR1_0.out HB.out)); (case side2 => exact HC1_0.out); (case side3 => exact zk_ (Kd.C_below HR2_0.out HB.out)); (case side4 => exact HC2_0.out); rintro e w34 ⟨v486, rfl, ho0, hb⟩; refine ⟨_, rfl, ?_⟩; have n0_ := Aside0.mk (Kd.R_lower ho0 (below_size (zw3_ HB GE479 GE480 GE481))); have n1_ := Aside0.mk (zl_ BK479 hb); have n2_ := Aside0.mk (zl_ BK480 hb); have n3_ := Aside0.mk (zl_ BK481 hb); have n4_ := Aside0.mk (below_step (zw3_ HB GE479 GE480 GE481) hb); clear BK479 BK480 BK481 HB; have HO487 := n0_; have BK479 := n1_; have BK480 := n2_; have BK481 := n3_; have HB := n4_; clear n0_ n1_ n2_ n3_ n4_; (try clear hb); (try clear hb2); (try clear hk); (try clear hi); (try clear ho0); obtain ⟨Ao35, co35, eo35⟩ := Kd.R_slice HO487.out; subst eo35) | ((with_reducible refine gate_callee (f := 15) rfl ?_); refine zg_ (some 38) Try.func15 #[.slice Ao35 t484.length co35, .int .i64 0] (h := ?_); (with_reducible refine (carouselref5_New.calls kj3 _ _ t484 0 t488 t491 _ ?side1 ?side2 A28.out).mono ?_); (case side1 => exact zk_ ((Kd.R_reads' HO487.out).2.2)); (case side2 => exact (Kd.R_reads' HO487.out).2.1); rintro e w36 ⟨v489, v492, rfl, ho0, ho1, hb⟩; refine ⟨_, rfl, ?_⟩; have n0_ := Aside0.mk (Kd.R_elder' (zr_ HO487.out) (Kd.R_base ho0) hb); have n1_ := Aside0.mk (Kd.R_lower (Kd.R_new' ho0 (Kd.R_lt (zr_ HO487.out))) (below_size (zw3_ HB GE479 GE480 GE481))); have n2_ := Aside0.mk (Kd.R_lower ho1 (below_size (zw3_ HB GE479 GE480 GE481))); have n3_ := Aside0.mk (zl_ BK479 hb); have n4_ := Aside0.mk (zl_ BK480 hb); have n5_ := Aside0.mk (zl_ BK481 hb); have n6_ := Aside0.mk (below_step (zw3_ HB GE479 GE480 GE481) hb); clear HO487 BK479 BK480 BK481 HB; have HO487 := n0_; have HO490 := n1_; have HO493 := n2_; have BK479 := n3_; have BK480 := n4_; have BK481 := n5_; have HB := n6_; clear n0_ n1_ n2_ n3_ n4_ n5_ n6_; (try clear hb); (try clear hb2); (try clear hk); (try clear hi); (try clear ho0); (try clear ho1)) | ((with_reducible refine gate_dst (N := 10) rfl ?_); refine box_event ?hg (N := 10) ?hd (cs := #[.slice none 0 0, .slice none 0 0]) (t := 27) ?hr ?_; (case hd => rfl); (case hg => rfl); (case hr => first | (go_simp; done) | (go_simp; rfl)); intro gb494 hg w37 hbox hb; have n0_ := Aside0.mk (Kd.R_below (zr_ HO487.out) hb); have n1_ := Aside0.mk (Kd.R_below (zr_ HO490.out) hb); have n2_ := Aside0.mk (Kd.R_below (zr_ HO493.out) hb); have n3_ := Aside0.mk (zl_ BK479 hb); have n4_ := Aside0.mk (zl_ BK480 hb); have n5_ := Aside0.mk (zl_ BK481 hb); have n6_ := Aside0.mk (below_step (zw3_ HB GE479 GE480 GE481) hb); have n7_ := Aside0.mk (hbox); have n8_ := Aside0.mk (zs_ hg (zw3_ HB GE479 GE480 GE481)); have n9_ := Aside0.mk (zs_ hg (zw3_ HB GE479 GE480 GE481)); have n10_ := Aside0.mk (zn_ hg BK479); have n11_ := Aside0.mk (zm_ hg BK479); have n12_ := Aside0.mk (zn_ hg BK480); have n13_ := Aside0.mk (zm_ hg BK480); have n14_ := Aside0.mk (zn_ hg BK481); have n15_ := Aside0.mk (zm_ hg BK481); clear HO487 HO490 HO493 BK479 BK480 BK481 HB; have HO487 := n0_; have HO490 := n1_; have HO493 := n2_; have BK479 := n3_; have BK480 := n4_; have BK481 := n5_; have HB := n6_; have BK494 := n7_; have GW494 := n8_; have GE494 := n9_; have NB479_494 := n10_; have NB494_479 := n11_; have NB480_494 := n12_; have NB494_480 := n13_; have NB481_494 := n14_; have NB494_481 := n15_; clear n0_ n1_ n2_ n3_ n4_ n5_ n6_ n7_ n8_ n9_ n10_ n11_ n12_ n13_ n14_ n15_; clear hb hbox hg; obtain ⟨Ao38, co38, eo38⟩ := Kd.R_slice HO490.out; subst eo38; have hnb39 := NB494_479.out; have hnc39 := NB479_494.out; have hnb40 := NB494_480.out; have hnc40 := NB480_494.out; have hnb41 := NB494_481.out; have hnc41 := NB481_494.out; have hcz42_0 := zx_ (v := .slice none 0 0) BK494 0; have hcz42_1 := zx_ (v := .slice none 0 0) BK494 1; have hfz42_0 := blk_frozen BK494.out 0; have hfz42_1 := blk_frozen BK494.out 1; obtain ⟨Ao43, co43, eo43⟩ := Kd.R_slice HO493.out; subst eo43))
     go_loopg [11] kj3 (fun kq v11 w' => ∃ (x11_2 : Int) (x495001_2 : List Int) (u495001 : Value), v11 = .int .i64 x11_2 ∧ Aside0 (carouselref5_Each.l0 kq a0 t484 x11_2 l1_0 l1_1 l2_0 l2_1 t488 x495001_2 = some (r1, r2, r3)) ∧ Aside0 (kq ≤ kj3) ∧ Aside0 (Kd.R (Kd.int .i64) 3 w' w.heap.size (fun k_ => some k_ ≠ ((.slice Ao38 t488.length co38) : Value).ownBlock) (.slice Ao35 t484.length co35) t484) ∧ Aside0 (Kd.R (Kd.int .i64) 3 w' w.heap.size (fun k_ => some k_ ≠ ((.slice Ao35 t484.length co35) : Value).ownBlock) (.slice Ao38 t488.length co38) t488) ∧ Aside0 (Kd.R (Kd.int .i64) 23 w' w.heap.size (fun _ => True) u495001 x495001_2) ∧ Aside0 (w'.heap[gb479]? = some (.cells #[(.slice A1_0 l1_0.length c1_0), (.slice A1_1 l1_1.length c1_1)] 27 (0, 0))) ∧ Aside0 (w'.heap[gb480]? = some (.cells #[(.slice A2_0 l2_0.length c2_0), (.slice A2_1 l2_1.length c2_1)] 27 (0, 0))) ∧ Aside0 (w'.heap[gb481]? = some (.cells #[(.slice none 0 0), (.slice none 0 0)] 27 (0, 0))) ∧ Aside0 (w'.heap[gb494]? = some (.cells #[(.slice Ao38 t488.length co38), u495001] 27 (0, 0))) ∧ Aside0 (Below w.heap.size w w'))
     case atStart => exact ⟨(0), (t491), (.slice Ao43 t491.length co43), (by first | rfl | (simp; done) | (simp [*]; done)), H', ⟨Nat.le_refl _⟩, ⟨zr_ (Kd.R_mono (Kd.R_far (p := ⟨gb494, 1, none⟩) (Kd.R_far (p := ⟨gb494, 0, none⟩) (Kd.R_types HO487.out BK494.out (by decide)) (fun _ hk => hk.2) (.slice Ao38 t488.length co38)) (fun _ hk => hk.2) (.slice Ao43 t491.length co43)) (fun _ hk => hk.1.2))⟩, ⟨zr_ (Kd.R_mono (Kd.R_far (p := ⟨gb494, 1, none⟩) (Kd.R_far (p := ⟨gb494, 0, none⟩) (Kd.R_types HO490.out BK494.out (by decide)) (fun _ hk => hk.2) (.slice Ao38 t488.length co38)) (fun _ hk => hk.2) (.slice Ao43 t491.length co43)) (fun _ hk => hk.1.2))⟩, ⟨zr_ (Kd.R_mono (Kd.R_far (p := ⟨gb494, 1, none⟩) (Kd.R_far (p := ⟨gb494, 0, none⟩) (Kd.R_types HO493.out BK494.out (by decide)) (fun _ hk => hk.2) (.slice Ao38 t488.length co38)) (fun _ hk => hk.2) (.slice Ao43 t491.length co43)) (fun _ hk => trivial))⟩, ⟨by (with_reducible repeat (first | refine blk_drewN ?_ _ | refine blk_drew ?_ | refine blk_alloc ?_ _)); refine blk_far ?_ NB479_494.out _; (with_reducible repeat (first | refine blk_drewN ?_ _ | refine blk_drew ?_ | refine blk_alloc ?_ _)); refine blk_far ?_ NB479_494.out _; (with_reducible repeat (first | refine blk_drewN ?_ _ | refine blk_drew ?_ | refine blk_alloc ?_ _)); exact BK479.out⟩, ⟨by (with_reducible repeat (first | refine blk_drewN ?_ _ | refine blk_drew ?_ | refine blk_alloc ?_ _)); refine blk_far ?_ NB480_494.out _; (with_reducible repeat (first | refine blk_drewN ?_ _ | refine blk_drew ?_ | refine blk_alloc ?_ _)); refine blk_far ?_ NB480_494.out _; (with_reducible repeat (first | refine blk_drewN ?_ _ | refine blk_drew ?_ | refine blk_alloc ?_ _)); exact BK480.out⟩, ⟨by (with_reducible repeat (first | refine blk_drewN ?_ _ | refine blk_drew ?_ | refine blk_alloc ?_ _)); refine blk_far ?_ NB481_494.out _; (with_reducible repeat (first | refine blk_drewN ?_ _ | refine blk_drew ?_ | refine blk_alloc ?_ _)); refine blk_far ?_ NB481_494.out _; (with_reducible repeat (first | refine blk_drewN ?_ _ | refine blk_drew ?_ | refine blk_alloc ?_ _)); exact BK481.out⟩, ⟨by (with_reducible repeat (first | refine blk_drewN ?_ _ | refine blk_drew ?_ | refine blk_alloc ?_ _)); refine blk_put (cs := #[.slice Ao38 t488.length co38, .slice none 0 0]) ?_ 1 _ rfl; (with_reducible repeat (first | refine blk_drewN ?_ _ | refine blk_drew ?_ | refine blk_alloc ?_ _)); refine blk_put (cs := #[.slice none 0 0, .slice none 0 0]) ?_ 0 _ rfl; (with_reducible repeat (first | refine blk_drewN ?_ _ | refine blk_drew ?_ | refine blk_alloc ?_ _)); exact BK494.out⟩, ⟨zw4_ HB GE479 GE480 GE481 GE494⟩⟩
     case round =>
      clear H'
      try clear c1
      try clear c2
      try clear p2
      try clear c3
      try clear c4
      try clear c9
      try clear c11
      try clear c12
      try clear c15
      try clear c18
      try clear c19
      try clear c22
      try clear c23
      try clear c24
      try clear c27
      try clear c27b0
      try clear c27b1
      try clear c29
      try clear c30
      try clear c32
      try clear c39
      try clear c40
      try clear c41
      try clear hcz13_0
      try clear hcz13_1
      try clear hcz16_0
      try clear hcz16_1
      try clear hcz20_0
      try clear hcz20_1
      try clear hcz25_0
      try clear hcz25_1
      try clear hcz31_0
      try clear hcz31_1
      try clear hcz33_0
      try clear hcz33_1
      try clear hcz42_0
      try clear hcz42_1
      try clear hfz13_0
      try clear hfz13_1
      try clear hfz16_0
      try clear hfz16_1
      try clear hfz20_0
      try clear hfz20_1
      try clear hfz25_0
      try clear hfz25_1
      try clear hfz31_0
      try clear hfz31_1
      try clear hfz33_0
      try clear hfz33_1
      try clear hfz42_0
      try clear hfz42_1
      try clear p2
      obtain ⟨x11_2, x495001_2, u495001, rfl, HA, HK2, HO_8, HO_495000, HO_495001, BK479, BK480, BK481, BK494, HB⟩ := hrel
      cases gk with
      | zero => exact absurd HA.out (by simp [carouselref5_Each.l0])
      | succ k2 =>
       have H := HA.out
       clear HA
       simp only [carouselref5_Each.l0] at H
       by_cases c44 : x11_2 < (x495001_2.length : Int)
       ·rw [if_pos c44] at H
        have c44b0 : decide (x11_2 < (x495001_2.length : Int)) = true := decide_eq_true c44
        clear c44
        replace H := Option.bind_eq_some_iff.mp H
        obtain ⟨⟨t495, t496⟩, A450, H⟩ := H
        (try dsimp only at H)
        have A45 := Aside0.mk A450
        clear A450
        replace H := Option.bind_eq_some_iff.mp H
        obtain ⟨⟨t497, t498⟩, A460, H⟩ := H
        (try dsimp only at H)
        have A46 := Aside0.mk A460
        clear A460
        by_cases c47 : a0 = 0
        ·rw [if_pos c47] at H
         have c47b0 : (a0 == 0) = true := beq_iff_eq.mpr c47
         have c47b1 : (a0 != 0) = false := bne_eq_false_iff_eq.mpr c47
         clear c47
         by_cases c48 : 0 ≤ t495
         ·rw [if_pos c48] at H
          have c48b0 : decide (0 ≤ t495) = true := decide_eq_true c48
          clear c48
          by_cases c49 : t495 < (l1_1.length : Int)
          ·rw [if_pos c49] at H
           have c49b0 : decide (t495 < (l1_1.length : Int)) = true := decide_eq_true c49
           clear c49
           by_cases c50 : 0 ≤ t497
           ·rw [if_pos c50] at H
            have c50b0 : decide (0 ≤ t497) = true := decide_eq_true c50
            clear c50
            by_cases c51 : t497 < (l2_1.length : Int)
            ·rw [if_pos c51] at H
             have c51b0 : decide (t497 < (l2_1.length : Int)) = true := decide_eq_true c51
             clear c51
             replace H := Option.bind_eq_some_iff.mp H
             obtain ⟨t501, A520, H⟩ := H
             (try dsimp only at H)
             have A52 := Aside0.mk A520
             clear A520
             by_cases c53 : 0 ≤ x11_2
             ·rw [if_pos c53] at H
              have c53b0 : decide (0 ≤ x11_2) = true := decide_eq_true c53
              clear c53
              obtain ⟨y502, hy502⟩ : ∃ y_ : List Int, y_ = (x495001_2.set (x11_2 : Int).toNat t501) := ⟨_, rfl⟩
              replace H : (carouselref5_Each.l0 k2 a0 t484 (wrap64 (x11_2 + 1)) l1_0 l1_1 l2_0 l2_1 t488 y502) = some (r1, r2, r3) := by first | (rw [hy502]; with_reducible exact H) | (have H2_ := (Option.bind_some _ _).symm.trans H; rw [hy502]; with_reducible exact H2_) | (have H2_ := (Option.bind_some _ _).symm.trans H; with_reducible exact H2_) | with_reducible exact H | (rw [hy502]; exact H) | exact H
              have Ny502 := Aside0.mk hy502
              clear hy502
              have H' := Aside0.mk H
              clear H
              have hnb55 := NB494_479.out
              have hnc55 := NB479_494.out
              have hnb56 := NB494_480.out
              have hnc56 := NB480_494.out
              have hnb57 := NB494_481.out
              have hnc57 := NB481_494.out
              have hcz58_0 := zx_ (v := .slice Ao38 t488.length co38) BK494 0
              have hcz58_1 := zx_ (v := u495001) BK494 1
              have hfz58_0 := blk_frozen BK494.out 0
              have hfz58_1 := blk_frozen BK494.out 1
              obtain ⟨Ao59, co59, eo59⟩ := Kd.R_slice HO_495001.out
              subst eo59
              have hnb60 := NB479_480.out
              have hnc60 := NB480_479.out
              have hnb61 := NB479_481.out
              have hnc61 := NB481_479.out
              have hcz62_0 := zx_ (v := .slice A1_0 l1_0.length c1_0) BK479 0
              have hcz62_1 := zx_ (v := .slice A1_1 l1_1.length c1_1) BK479 1
              have hfz62_0 := blk_frozen BK479.out 0
              have hfz62_1 := blk_frozen BK479.out 1
              try go_wp2_with (first | ((with_reducible refine gate_callee (f := 47) rfl ?_); refine zg_ (some 51) Try.func47 #[.slice A1_0 l1_0.length c1_0, .slice Ao35 t484.length co35, .int .i64 x11_2] (h := ?_); (with_reducible refine (carouselref5_From.calls k2 _ _ l1_0 _ _ t484 x11_2 t495 t496 _ ?side1 ?side2 ?side3 ?side4 A45.out).mono ?_); (case side1 => exact zk_ (Kd.C_below HR1_0.out HB.out)); (case side2 => exact HC1_0.out); (case side3 => exact zk_ ((Kd.R_reads' HO_8.out).2.2)); (case side4 => exact (Kd.R_reads' HO_8.out).2.1); rintro e w63 ⟨rfl, hb⟩; refine ⟨_, rfl, ?_⟩; have n0_ := Aside0.mk (Kd.R_below (zr_ HO_8.out) hb); have n1_ := Aside0.mk (Kd.R_below (zr_ HO_495000.out) hb); have n2_ := Aside0.mk (Kd.R_below (zr_ HO_495001.out) hb); have n3_ := Aside0.mk (zl_ BK479 hb); have n4_ := Aside0.mk (zl_ BK480 hb); have n5_ := Aside0.mk (zl_ BK481 hb); have n6_ := Aside0.mk (zl_ BK494 hb); have n7_ := Aside0.mk (below_step (zw4_ HB GE479 GE480 GE481 GE494) hb); clear HO_8 HO_495000 HO_495001 BK479 BK480 BK481 BK494 HB; have HO_8 := n0_; have HO_495000 := n1_; have HO_495001 := n2_; have BK479 := n3_; have BK480 := n4_; have BK481 := n5_; have BK494 := n6_; have HB := n7_; clear n0_ n1_ n2_ n3_ n4_ n5_ n6_ n7_; (try clear hb); (try clear hb2); (try clear hk); (try clear hi); have hnb64 := NB480_481.out; have hnc64 := NB481_480.out; have hcz65_0 := zx_ (v := .slice A2_0 l2_0.length c2_0) BK480 0; have hcz65_1 := zx_ (v := .slice A2_1 l2_1.length c2_1) BK480 1; have hfz65_0 := blk_frozen BK480.out 0; have hfz65_1 := blk_frozen BK480.out 1) | ((with_reducible refine gate_callee (f := 47) rfl ?_); refine zg_ (some 59) Try.func47 #[.slice A2_0 l2_0.length c2_0, .slice Ao35 t484.length co35, .int .i64 x11_2] (h := ?_); (with_reducible refine (carouselref5_From.calls k2 _ _ l2_0 _ _ t484 x11_2 t497 t498 _ ?side1 ?side2 ?side3 ?side4 A46.out).mono ?_); (case side1 => exact zk_ (Kd.C_below HR2_0.out HB.out)); (case side2 => exact HC2_0.out); (case side3 => exact zk_ ((Kd.R_reads' HO_8.out).2.2)); (case side4 => exact (Kd.R_reads' HO_8.out).2.1); rintro e w66 ⟨rfl, hb⟩; refine ⟨_, rfl, ?_⟩; have n0_ := Aside0.mk (Kd.R_below (zr_ HO_8.out) hb); have n1_ := Aside0.mk (Kd.R_below (zr_ HO_495000.out) hb); have n2_ := Aside0.mk (Kd.R_below (zr_ HO_495001.out) hb); have n3_ := Aside0.mk (zl_ BK479 hb); have n4_ := Aside0.mk (zl_ BK480 hb); have n5_ := Aside0.mk (zl_ BK481 hb); have n6_ := Aside0.mk (zl_ BK494 hb); have n7_ := Aside0.mk (below_step (zw4_ HB GE479 GE480 GE481 GE494) hb); clear HO_8 HO_495000 HO_495001 BK479 BK480 BK481 BK494 HB; have HO_8 := n0_; have HO_495000 := n1_; have HO_495001 := n2_; have BK479 := n3_; have BK480 := n4_; have BK481 := n5_; have BK494 := n6_; have HB := n7_; clear n0_ n1_ n2_ n3_ n4_ n5_ n6_ n7_; (try clear hb); (try clear hb2); (try clear hk); (try clear hi)))
              have n0_ := Aside0.mk (Kd.R_drew HO_8.out)
              have n1_ := Aside0.mk (Kd.R_drew HO_495000.out)
              have n2_ := Aside0.mk (Kd.R_drew HO_495001.out)
              have n3_ := Aside0.mk (blk_drew BK479.out)
              have n4_ := Aside0.mk (blk_drew BK480.out)
              have n5_ := Aside0.mk (blk_drew BK481.out)
              have n6_ := Aside0.mk (blk_drew BK494.out)
              have n7_ := Aside0.mk (below_drew1 HB.out)
              clear HO_8
              clear HO_495000
              clear HO_495001
              clear BK479
              clear BK480
              clear BK481
              clear BK494
              clear HB
              have HO_8 := n0_
              have HO_495000 := n1_
              have HO_495001 := n2_
              have BK479 := n3_
              have BK480 := n4_
              have BK481 := n5_
              have BK494 := n6_
              have HB := n7_
              clear n0_ n1_ n2_ n3_ n4_ n5_ n6_ n7_
              have p499 : 0 ≤ (t495 : Int) := of_decide_eq_true (by first | (with_reducible assumption) | assumption)
              have q499 : t495 < (l1_1.length : Int) := of_decide_eq_true (by first | (with_reducible assumption) | assumption)
              obtain ⟨ad499, e499, hx499_0⟩ := Kd.at_int HR1_1.out t495 p499 q499
              have hw499_0 := hx499_0
              cases e499
              replace hx499_0 := (HB.out.cell (World.block_lt_of_cell? w _ hx499_0)).trans hx499_0
              replace p499 := eq_true p499
              replace q499 := eq_true q499
              have p500 : 0 ≤ (t497 : Int) := of_decide_eq_true (by first | (with_reducible assumption) | assumption)
              have q500 : t497 < (l2_1.length : Int) := of_decide_eq_true (by first | (with_reducible assumption) | assumption)
              obtain ⟨ad500, e500, hx500_0⟩ := Kd.at_int HR2_1.out t497 p500 q500
              have hw500_0 := hx500_0
              cases e500
              replace hx500_0 := (HB.out.cell (World.block_lt_of_cell? w _ hx500_0)).trans hx500_0
              replace p500 := eq_true p500
              replace q500 := eq_true q500
              refine start_ (n := 16) (S := fun w' => w'.cell? ⟨gb494, 0, none⟩ = some (.slice Ao38 t488.length co38) ∧ w'.cell? ⟨gb494, 1, none⟩ = some (.slice Ao59 x495001_2.length co59) ∧ w'.cell? ⟨gb479, 0, none⟩ = some (.slice A1_0 l1_0.length c1_0) ∧ w'.cell? ⟨gb479, 1, none⟩ = some (.slice (some ad499) l1_1.length c1_1) ∧ w'.cell? ⟨gb480, 0, none⟩ = some (.slice A2_0 l2_0.length c2_0) ∧ w'.cell? ⟨gb480, 1, none⟩ = some (.slice (some ad500) l2_1.length c2_1) ∧ w'.cell? (ad499.add (t495).toNat) = some (.int .i64 (rd l1_1 t495)) ∧ w'.cell? (ad500.add (t497).toNat) = some (.int .i64 (rd l2_1 t497))) (ds := [15]) #[false, false, false, false, false, false, false, false, false, false, false, false, false, false, false, false] (by kernel_rfl) rfl rfl ⟨(blk_cell BK494.out 0).trans rfl, (blk_cell BK494.out 1).trans rfl, (blk_cell BK479.out 0).trans rfl, (blk_cell BK479.out 1).trans rfl, (blk_cell BK480.out 0).trans rfl, (blk_cell BK480.out 1).trans rfl, ((HB.out.cell (World.block_lt_of_cell? w _ hw499_0)).trans hw499_0), ((HB.out.cell (World.block_lt_of_cell? w _ hw500_0)).trans hw500_0)⟩ (fun hHeld => ?_); refine with_tabW carouselref5_Each.tab15 carouselref5_Each.bits15 (fun HT_ HW_ => ?_)
              generalize w66.drew = w67 at HO_8 HO_495000 HO_495001 BK479 BK480 BK481 BK494 HB hx499_0 hx500_0 hHeld ⊢
              refine zp_ 0 (some 80) (h := ?_)
              refine zp_ 2 (some 82) (h := ?_)
              refine zp_ 3 (some 83) (h := ?_)
              refine zp_ 5 (some 85) (h := ?_)
              refine zp_ 8 (some 88) (h := ?_)
              refine zp_ 10 (some 90) (h := ?_)
              refine zt_ 1 (some 81) (hr := by rintro w' ⟨s0, s1, s2, s3, s4, s5, s6, s7⟩; go_simp; with_reducible rfl) (h := ?_)
              refine zt_ 4 (some 84) (hr := by rintro w' ⟨s0, s1, s2, s3, s4, s5, s6, s7⟩; go_simp; with_reducible rfl) (h := ?_)
              refine zp_ 6 (some 86) (h := ?_)
              refine zt_ 7 (some 87) (hr := by rintro w' ⟨s0, s1, s2, s3, s4, s5, s6, s7⟩; go_simp; with_reducible rfl) (h := ?_)
              refine zt_ 9 (some 89) (hr := by rintro w' ⟨s0, s1, s2, s3, s4, s5, s6, s7⟩; go_simp; with_reducible rfl) (h := ?_)
              refine zp_ 11 (some 91) (h := ?_)
              refine zt_ 12 (some 92) (hr := by rintro w' ⟨s0, s1, s2, s3, s4, s5, s6, s7⟩; go_simp; with_reducible rfl) (h := ?_)
              refine one_ (i := 13) (N := some 93) #[true, true, true, true, true, true, true, true, true, true, true, true, true, true, false, false] rfl rfl (one_of HT_.out (by kernel_rfl)) (by decide) (fun K hK => ?_)
              refine goes_ Try.func48 (by kernel_rfl) rfl #[.int .i64 (rd l1_1 t495), .int .i64 (rd l2_1 t497)] (by rfl) rfl rfl (by (try simp only [List.map_toArray, List.map_cons, List.map_nil]); first | done | rfl | (simp only [List.length_drop, List.length_take]; rfl)) ?_
              with_reducible refine (carouselref1_Add.calls k2 (rd l1_1 t495) (rd l2_1 t497) t501 _ A52.out).mono ?_
              rintro e w68 ⟨rfl, hb⟩
              refine ⟨_, rfl, ?_⟩
              have n0_ := Aside0.mk (Kd.R_below (zr_ HO_8.out) hb)
              have n1_ := Aside0.mk (Kd.R_below (zr_ HO_495000.out) hb)
              have n2_ := Aside0.mk (Kd.R_below (zr_ HO_495001.out) hb)
              have n3_ := Aside0.mk (zl_ BK479 hb)
              have n4_ := Aside0.mk (zl_ BK480 hb)
              have n5_ := Aside0.mk (zl_ BK481 hb)
              have n6_ := Aside0.mk (zl_ BK494 hb)
              have n7_ := Aside0.mk (below_step (zw4_ HB GE479 GE480 GE481 GE494) hb)
              clear HO_8
              clear HO_495000
              clear HO_495001
              clear BK479
              clear BK480
              clear BK481
              clear BK494
              clear HB
              have HO_8 := n0_
              have HO_495000 := n1_
              have HO_495001 := n2_
              have BK479 := n3_
              have BK480 := n4_
              have BK481 := n5_
              have BK494 := n6_
              have HB := n7_
              clear n0_ n1_ n2_ n3_ n4_ n5_ n6_ n7_
              (try clear hb)
              (try clear hb2)
              (try clear hk)
              (try clear hi)
              have p54 : 0 ≤ (x11_2 : Int) := of_decide_eq_true (by first | (with_reducible assumption) | assumption)
              have q54 : (x11_2 : Int) < ((x495001_2.length : Int) : Int) := of_decide_eq_true (by first | (with_reducible assumption) | assumption)
              obtain ⟨go54, co54, eo54, gb54, gl54, cl54, HG54⟩ := Kd.R_form HO_495001.out (by omega)
              (first | cases eo54 | (injection eo54 with ea_ en_ ec_; (first | subst ea_ | (injection ea_ with ea_; subst ea_)); subst ec_; clear en_))
              have GB54 := Aside0.mk gb54
              have GG54 := Aside0.mk HG54
              clear gb54 gl54 HG54
              obtain ⟨hx54_0, hf54_0⟩ := Kd.R_celln 0 HO_495001.out (x11_2 : Int) p54 q54
              replace p54 := eq_true p54
              replace q54 := eq_true q54
              have HP69 := Kd.R_putn HO_495001.out (x11_2 : Int) t501
              rw [← Ny502.out] at HP69
              have HQ69 := Aside0.mk HP69
              clear HP69
              refine hK.out _ _ ⟨(blk_cell BK494.out 0).trans rfl, (blk_cell BK494.out 1).trans rfl, (blk_cell BK479.out 0).trans rfl, (blk_cell BK479.out 1).trans rfl, (blk_cell BK480.out 0).trans rfl, (blk_cell BK480.out 1).trans rfl, ((HB.out.cell (World.block_lt_of_cell? w _ hw499_0)).trans hw499_0), ((HB.out.cell (World.block_lt_of_cell? w _ hw500_0)).trans hw500_0)⟩ (fun hHeld => ?_)
              clear hK K
              refine norm_ (a' := ?_) ?_ ?_
              rotate_left
              ·show Act.put _ (some 93) _ = _
               simp only [Act.put, List.setIfInBounds_toArray, List.set_cons_zero, List.set_cons_succ, i64_w, i32_w]
               rfl
              refine zp_ 14 (some 94) (h := ?_)
              refine last_ (i := 15) (N := none) #[true, true, true, true, true, true, true, true, true, true, true, true, true, true, true, true] rfl rfl (one_of HT_.out (by kernel_rfl)) (by decide) (fun K hK => ?_)
              refine skip_ (w1 := ?_) (by rfl) rfl ?_ ?_
              rotate_left
              ·go_simp
               rfl
              refine hK.out _ _ ?_
              clear hK K
              refine done_ (done_of HT_.out (by kernel_rfl)) ?_
              try go_wp2
              go_roundg k2
              case measure => have := HJ3.out; have := HK2.out; omega
              case rel => exact ⟨(wrap64 (x11_2 + 1)), (y502), (.slice (some ⟨go54, 0, none⟩) x495001_2.length co59), (by first | rfl | (simp; done) | (simp [*]; done)), H', ⟨by have := HJ3.out; have := HK2.out; omega⟩, ⟨zr_ (Kd.R_mono (Kd.R_far (p := ⟨go54, (x11_2 : Int).toNat, none⟩) (Kd.R_types HO_8.out GG54.out (by decide)) (fun _ hk => hk.2) (.int .i64 t501)) (fun _ hk => hk.1))⟩, ⟨zr_ (Kd.R_mono (Kd.R_far (p := ⟨go54, (x11_2 : Int).toNat, none⟩) (Kd.R_types HO_495000.out GG54.out (by decide)) (fun _ hk => hk.2) (.int .i64 t501)) (fun _ hk => hk.1))⟩, ⟨zr_ HQ69.out⟩, ⟨by (with_reducible repeat (first | refine blk_drewN ?_ _ | refine blk_drew ?_ | refine blk_alloc ?_ _)); refine blk_far ?_ (by have h_ := Kd.R_ne HO_495001.out BK479.out (by decide); intro e_; exact h_ (by rw [e_]; rfl)) _; (with_reducible repeat (first | refine blk_drewN ?_ _ | refine blk_drew ?_ | refine blk_alloc ?_ _)); exact BK479.out⟩, ⟨by (with_reducible repeat (first | refine blk_drewN ?_ _ | refine blk_drew ?_ | refine blk_alloc ?_ _)); refine blk_far ?_ (by have h_ := Kd.R_ne HO_495001.out BK480.out (by decide); intro e_; exact h_ (by rw [e_]; rfl)) _; (with_reducible repeat (first | refine blk_drewN ?_ _ | refine blk_drew ?_ | refine blk_alloc ?_ _)); exact BK480.out⟩, ⟨by (with_reducible repeat (first | refine blk_drewN ?_ _ | refine blk_drew ?_ | refine blk_alloc ?_ _)); refine blk_far ?_ (by have h_ := Kd.R_ne HO_495001.out BK481.out (by decide); intro e_; exact h_ (by rw [e_]; rfl)) _; (with_reducible repeat (first | refine blk_drewN ?_ _ | refine blk_drew ?_ | refine blk_alloc ?_ _)); exact BK481.out⟩, ⟨by (with_reducible repeat (first | refine blk_drewN ?_ _ | refine blk_drew ?_ | refine blk_alloc ?_ _)); refine blk_far ?_ (by have h_ := Kd.R_ne HO_495001.out BK494.out (by decide); intro e_; exact h_ (by rw [e_]; rfl)) _; (with_reducible repeat (first | refine blk_drewN ?_ _ | refine blk_drew ?_ | refine blk_alloc ?_ _)); exact BK494.out⟩, ⟨by repeat (first | (with_reducible first | exact HB.out | apply below_alloc | apply pw_below_drewN | apply below_drew1 | refine below_set ?_ GB54.out | refine below_set ?_ GE479.out | refine below_set ?_ GE480.out | refine below_set ?_ GE481.out | refine below_set ?_ GE494.out) | exact HB.out)⟩⟩
             ·rw [if_neg c53] at H
              exact absurd H (by simp)
            ·rw [if_neg c51] at H
             exact absurd H (by simp)
           ·rw [if_neg c50] at H
            exact absurd H (by simp)
          ·rw [if_neg c49] at H
           exact absurd H (by simp)
         ·rw [if_neg c48] at H
          exact absurd H (by simp)
        ·rw [if_neg c47] at H
         have c47b0 : (a0 == 0) = false := beq_eq_false_iff_ne.mpr c47
         have c47b1 : (a0 != 0) = true := bne_iff_ne.mpr c47
         by_cases c70 : a0 = 1
         ·rw [if_pos c70] at H
          have c70b0 : (a0 == 1) = true := beq_iff_eq.mpr c70
          have c70b1 : (a0 != 1) = false := bne_eq_false_iff_eq.mpr c70
          clear c70
          by_cases c71 : 0 ≤ t495
          ·rw [if_pos c71] at H
           have c71b0 : decide (0 ≤ t495) = true := decide_eq_true c71
           clear c71
           by_cases c72 : t495 < (l1_1.length : Int)
           ·rw [if_pos c72] at H
            have c72b0 : decide (t495 < (l1_1.length : Int)) = true := decide_eq_true c72
            clear c72
            by_cases c73 : 0 ≤ t497
            ·rw [if_pos c73] at H
             have c73b0 : decide (0 ≤ t497) = true := decide_eq_true c73
             clear c73
             by_cases c74 : t497 < (l2_1.length : Int)
             ·rw [if_pos c74] at H
              have c74b0 : decide (t497 < (l2_1.length : Int)) = true := decide_eq_true c74
              clear c74
              replace H := Option.bind_eq_some_iff.mp H
              obtain ⟨t505, A750, H⟩ := H
              (try dsimp only at H)
              have A75 := Aside0.mk A750
              clear A750
              by_cases c76 : 0 ≤ x11_2
              ·rw [if_pos c76] at H
               have c76b0 : decide (0 ≤ x11_2) = true := decide_eq_true c76
               clear c76
               obtain ⟨y506, hy506⟩ : ∃ y_ : List Int, y_ = (x495001_2.set (x11_2 : Int).toNat t505) := ⟨_, rfl⟩
               replace H : (carouselref5_Each.l0 k2 a0 t484 (wrap64 (x11_2 + 1)) l1_0 l1_1 l2_0 l2_1 t488 y506) = some (r1, r2, r3) := by first | (rw [hy506]; with_reducible exact H) | (have H2_ := (Option.bind_some _ _).symm.trans H; rw [hy506]; with_reducible exact H2_) | (have H2_ := (Option.bind_some _ _).symm.trans H; with_reducible exact H2_) | with_reducible exact H | (rw [hy506]; exact H) | exact H
               have Ny506 := Aside0.mk hy506
               clear hy506
               have H' := Aside0.mk H
               clear H
               have hnb78 := NB494_479.out
               have hnc78 := NB479_494.out
               have hnb79 := NB494_480.out
               have hnc79 := NB480_494.out
               have hnb80 := NB494_481.out
               have hnc80 := NB481_494.out
               have hcz81_0 := zx_ (v := .slice Ao38 t488.length co38) BK494 0
               have hcz81_1 := zx_ (v := u495001) BK494 1
               have hfz81_0 := blk_frozen BK494.out 0
               have hfz81_1 := blk_frozen BK494.out 1
               obtain ⟨Ao82, co82, eo82⟩ := Kd.R_slice HO_495001.out
               subst eo82
               have hnb83 := NB479_480.out
               have hnc83 := NB480_479.out
               have hnb84 := NB479_481.out
               have hnc84 := NB481_479.out
               have hcz85_0 := zx_ (v := .slice A1_0 l1_0.length c1_0) BK479 0
               have hcz85_1 := zx_ (v := .slice A1_1 l1_1.length c1_1) BK479 1
               have hfz85_0 := blk_frozen BK479.out 0
               have hfz85_1 := blk_frozen BK479.out 1
               try go_wp2_with (first | ((with_reducible refine gate_callee (f := 47) rfl ?_); refine zg_ (some 51) Try.func47 #[.slice A1_0 l1_0.length c1_0, .slice Ao35 t484.length co35, .int .i64 x11_2] (h := ?_); (with_reducible refine (carouselref5_From.calls k2 _ _ l1_0 _ _ t484 x11_2 t495 t496 _ ?side1 ?side2 ?side3 ?side4 A45.out).mono ?_); (case side1 => exact zk_ (Kd.C_below HR1_0.out HB.out)); (case side2 => exact HC1_0.out); (case side3 => exact zk_ ((Kd.R_reads' HO_8.out).2.2)); (case side4 => exact (Kd.R_reads' HO_8.out).2.1); rintro e w86 ⟨rfl, hb⟩; refine ⟨_, rfl, ?_⟩; have n0_ := Aside0.mk (Kd.R_below (zr_ HO_8.out) hb); have n1_ := Aside0.mk (Kd.R_below (zr_ HO_495000.out) hb); have n2_ := Aside0.mk (Kd.R_below (zr_ HO_495001.out) hb); have n3_ := Aside0.mk (zl_ BK479 hb); have n4_ := Aside0.mk (zl_ BK480 hb); have n5_ := Aside0.mk (zl_ BK481 hb); have n6_ := Aside0.mk (zl_ BK494 hb); have n7_ := Aside0.mk (below_step (zw4_ HB GE479 GE480 GE481 GE494) hb); clear HO_8 HO_495000 HO_495001 BK479 BK480 BK481 BK494 HB; have HO_8 := n0_; have HO_495000 := n1_; have HO_495001 := n2_; have BK479 := n3_; have BK480 := n4_; have BK481 := n5_; have BK494 := n6_; have HB := n7_; clear n0_ n1_ n2_ n3_ n4_ n5_ n6_ n7_; (try clear hb); (try clear hb2); (try clear hk); (try clear hi); have hnb87 := NB480_481.out; have hnc87 := NB481_480.out; have hcz88_0 := zx_ (v := .slice A2_0 l2_0.length c2_0) BK480 0; have hcz88_1 := zx_ (v := .slice A2_1 l2_1.length c2_1) BK480 1; have hfz88_0 := blk_frozen BK480.out 0; have hfz88_1 := blk_frozen BK480.out 1) | ((with_reducible refine gate_callee (f := 47) rfl ?_); refine zg_ (some 59) Try.func47 #[.slice A2_0 l2_0.length c2_0, .slice Ao35 t484.length co35, .int .i64 x11_2] (h := ?_); (with_reducible refine (carouselref5_From.calls k2 _ _ l2_0 _ _ t484 x11_2 t497 t498 _ ?side1 ?side2 ?side3 ?side4 A46.out).mono ?_); (case side1 => exact zk_ (Kd.C_below HR2_0.out HB.out)); (case side2 => exact HC2_0.out); (case side3 => exact zk_ ((Kd.R_reads' HO_8.out).2.2)); (case side4 => exact (Kd.R_reads' HO_8.out).2.1); rintro e w89 ⟨rfl, hb⟩; refine ⟨_, rfl, ?_⟩; have n0_ := Aside0.mk (Kd.R_below (zr_ HO_8.out) hb); have n1_ := Aside0.mk (Kd.R_below (zr_ HO_495000.out) hb); have n2_ := Aside0.mk (Kd.R_below (zr_ HO_495001.out) hb); have n3_ := Aside0.mk (zl_ BK479 hb); have n4_ := Aside0.mk (zl_ BK480 hb); have n5_ := Aside0.mk (zl_ BK481 hb); have n6_ := Aside0.mk (zl_ BK494 hb); have n7_ := Aside0.mk (below_step (zw4_ HB GE479 GE480 GE481 GE494) hb); clear HO_8 HO_495000 HO_495001 BK479 BK480 BK481 BK494 HB; have HO_8 := n0_; have HO_495000 := n1_; have HO_495001 := n2_; have BK479 := n3_; have BK480 := n4_; have BK481 := n5_; have BK494 := n6_; have HB := n7_; clear n0_ n1_ n2_ n3_ n4_ n5_ n6_ n7_; (try clear hb); (try clear hb2); (try clear hk); (try clear hi)))
               have n0_ := Aside0.mk (Kd.R_drew HO_8.out)
               have n1_ := Aside0.mk (Kd.R_drew HO_495000.out)
               have n2_ := Aside0.mk (Kd.R_drew HO_495001.out)
               have n3_ := Aside0.mk (blk_drew BK479.out)
               have n4_ := Aside0.mk (blk_drew BK480.out)
               have n5_ := Aside0.mk (blk_drew BK481.out)
               have n6_ := Aside0.mk (blk_drew BK494.out)
               have n7_ := Aside0.mk (below_drew1 HB.out)
               clear HO_8
               clear HO_495000
               clear HO_495001
               clear BK479
               clear BK480
               clear BK481
               clear BK494
               clear HB
               have HO_8 := n0_
               have HO_495000 := n1_
               have HO_495001 := n2_
               have BK479 := n3_
               have BK480 := n4_
               have BK481 := n5_
               have BK494 := n6_
               have HB := n7_
               clear n0_ n1_ n2_ n3_ n4_ n5_ n6_ n7_
               have p503 : 0 ≤ (t495 : Int) := of_decide_eq_true (by first | (with_reducible assumption) | assumption)
               have q503 : t495 < (l1_1.length : Int) := of_decide_eq_true (by first | (with_reducible assumption) | assumption)
               obtain ⟨ad503, e503, hx503_0⟩ := Kd.at_int HR1_1.out t495 p503 q503
               have hw503_0 := hx503_0
               cases e503
               replace hx503_0 := (HB.out.cell (World.block_lt_of_cell? w _ hx503_0)).trans hx503_0
               replace p503 := eq_true p503
               replace q503 := eq_true q503
               have p504 : 0 ≤ (t497 : Int) := of_decide_eq_true (by first | (with_reducible assumption) | assumption)
               have q504 : t497 < (l2_1.length : Int) := of_decide_eq_true (by first | (with_reducible assumption) | assumption)
               obtain ⟨ad504, e504, hx504_0⟩ := Kd.at_int HR2_1.out t497 p504 q504
               have hw504_0 := hx504_0
               cases e504
               replace hx504_0 := (HB.out.cell (World.block_lt_of_cell? w _ hx504_0)).trans hx504_0
               replace p504 := eq_true p504
               replace q504 := eq_true q504
               refine start_ (n := 16) (S := fun w' => w'.cell? ⟨gb494, 0, none⟩ = some (.slice Ao38 t488.length co38) ∧ w'.cell? ⟨gb494, 1, none⟩ = some (.slice Ao82 x495001_2.length co82) ∧ w'.cell? ⟨gb479, 0, none⟩ = some (.slice A1_0 l1_0.length c1_0) ∧ w'.cell? ⟨gb479, 1, none⟩ = some (.slice (some ad503) l1_1.length c1_1) ∧ w'.cell? ⟨gb480, 0, none⟩ = some (.slice A2_0 l2_0.length c2_0) ∧ w'.cell? ⟨gb480, 1, none⟩ = some (.slice (some ad504) l2_1.length c2_1) ∧ w'.cell? (ad503.add (t495).toNat) = some (.int .i64 (rd l1_1 t495)) ∧ w'.cell? (ad504.add (t497).toNat) = some (.int .i64 (rd l2_1 t497))) (ds := [15]) #[false, false, false, false, false, false, false, false, false, false, false, false, false, false, false, false] (by kernel_rfl) rfl rfl ⟨(blk_cell BK494.out 0).trans rfl, (blk_cell BK494.out 1).trans rfl, (blk_cell BK479.out 0).trans rfl, (blk_cell BK479.out 1).trans rfl, (blk_cell BK480.out 0).trans rfl, (blk_cell BK480.out 1).trans rfl, ((HB.out.cell (World.block_lt_of_cell? w _ hw503_0)).trans hw503_0), ((HB.out.cell (World.block_lt_of_cell? w _ hw504_0)).trans hw504_0)⟩ (fun hHeld => ?_); refine with_tabW carouselref5_Each.tab17 carouselref5_Each.bits17 (fun HT_ HW_ => ?_)
               generalize w89.drew = w90 at HO_8 HO_495000 HO_495001 BK479 BK480 BK481 BK494 HB hx503_0 hx504_0 hHeld ⊢
               refine zp_ 0 (some 97) (h := ?_)
               refine zp_ 2 (some 99) (h := ?_)
               refine zp_ 3 (some 100) (h := ?_)
               refine zp_ 5 (some 102) (h := ?_)
               refine zp_ 8 (some 105) (h := ?_)
               refine zp_ 10 (some 107) (h := ?_)
               refine zt_ 1 (some 98) (hr := by rintro w' ⟨s0, s1, s2, s3, s4, s5, s6, s7⟩; go_simp; with_reducible rfl) (h := ?_)
               refine zt_ 4 (some 101) (hr := by rintro w' ⟨s0, s1, s2, s3, s4, s5, s6, s7⟩; go_simp; with_reducible rfl) (h := ?_)
               refine zp_ 6 (some 103) (h := ?_)
               refine zt_ 7 (some 104) (hr := by rintro w' ⟨s0, s1, s2, s3, s4, s5, s6, s7⟩; go_simp; with_reducible rfl) (h := ?_)
               refine zt_ 9 (some 106) (hr := by rintro w' ⟨s0, s1, s2, s3, s4, s5, s6, s7⟩; go_simp; with_reducible rfl) (h := ?_)
               refine zp_ 11 (some 108) (h := ?_)
               refine zt_ 12 (some 109) (hr := by rintro w' ⟨s0, s1, s2, s3, s4, s5, s6, s7⟩; go_simp; with_reducible rfl) (h := ?_)
               refine one_ (i := 13) (N := some 110) #[true, true, true, true, true, true, true, true, true, true, true, true, true, true, false, false] rfl rfl (one_of HT_.out (by kernel_rfl)) (by decide) (fun K hK => ?_)
               refine goes_ Try.func49 (by kernel_rfl) rfl #[.int .i64 (rd l1_1 t495), .int .i64 (rd l2_1 t497)] (by rfl) rfl rfl (by (try simp only [List.map_toArray, List.map_cons, List.map_nil]); first | done | rfl | (simp only [List.length_drop, List.length_take]; rfl)) ?_
               with_reducible refine (carouselref1_Sub.calls k2 (rd l1_1 t495) (rd l2_1 t497) t505 _ A75.out).mono ?_
               rintro e w91 ⟨rfl, hb⟩
               refine ⟨_, rfl, ?_⟩
               have n0_ := Aside0.mk (Kd.R_below (zr_ HO_8.out) hb)
               have n1_ := Aside0.mk (Kd.R_below (zr_ HO_495000.out) hb)
               have n2_ := Aside0.mk (Kd.R_below (zr_ HO_495001.out) hb)
               have n3_ := Aside0.mk (zl_ BK479 hb)
               have n4_ := Aside0.mk (zl_ BK480 hb)
               have n5_ := Aside0.mk (zl_ BK481 hb)
               have n6_ := Aside0.mk (zl_ BK494 hb)
               have n7_ := Aside0.mk (below_step (zw4_ HB GE479 GE480 GE481 GE494) hb)
               clear HO_8
               clear HO_495000
               clear HO_495001
               clear BK479
               clear BK480
               clear BK481
               clear BK494
               clear HB
               have HO_8 := n0_
               have HO_495000 := n1_
               have HO_495001 := n2_
               have BK479 := n3_
               have BK480 := n4_
               have BK481 := n5_
               have BK494 := n6_
               have HB := n7_
               clear n0_ n1_ n2_ n3_ n4_ n5_ n6_ n7_
               (try clear hb)
               (try clear hb2)
               (try clear hk)
               (try clear hi)
               have p77 : 0 ≤ (x11_2 : Int) := of_decide_eq_true (by first | (with_reducible assumption) | assumption)
               have q77 : (x11_2 : Int) < ((x495001_2.length : Int) : Int) := of_decide_eq_true (by first | (with_reducible assumption) | assumption)
               obtain ⟨go77, co77, eo77, gb77, gl77, cl77, HG77⟩ := Kd.R_form HO_495001.out (by omega)
               (first | cases eo77 | (injection eo77 with ea_ en_ ec_; (first | subst ea_ | (injection ea_ with ea_; subst ea_)); subst ec_; clear en_))
               have GB77 := Aside0.mk gb77
               have GG77 := Aside0.mk HG77
               clear gb77 gl77 HG77
               obtain ⟨hx77_0, hf77_0⟩ := Kd.R_celln 0 HO_495001.out (x11_2 : Int) p77 q77
               replace p77 := eq_true p77
               replace q77 := eq_true q77
               have HP92 := Kd.R_putn HO_495001.out (x11_2 : Int) t505
               rw [← Ny506.out] at HP92
               have HQ92 := Aside0.mk HP92
               clear HP92
               refine hK.out _ _ ⟨(blk_cell BK494.out 0).trans rfl, (blk_cell BK494.out 1).trans rfl, (blk_cell BK479.out 0).trans rfl, (blk_cell BK479.out 1).trans rfl, (blk_cell BK480.out 0).trans rfl, (blk_cell BK480.out 1).trans rfl, ((HB.out.cell (World.block_lt_of_cell? w _ hw503_0)).trans hw503_0), ((HB.out.cell (World.block_lt_of_cell? w _ hw504_0)).trans hw504_0)⟩ (fun hHeld => ?_)
               clear hK K
               refine norm_ (a' := ?_) ?_ ?_
               rotate_left
               ·show Act.put _ (some 110) _ = _
                simp only [Act.put, List.setIfInBounds_toArray, List.set_cons_zero, List.set_cons_succ, i64_w, i32_w]
                rfl
               refine zp_ 14 (some 111) (h := ?_)
               refine last_ (i := 15) (N := none) #[true, true, true, true, true, true, true, true, true, true, true, true, true, true, true, true] rfl rfl (one_of HT_.out (by kernel_rfl)) (by decide) (fun K hK => ?_)
               refine skip_ (w1 := ?_) (by rfl) rfl ?_ ?_
               rotate_left
               ·go_simp
                rfl
               refine hK.out _ _ ?_
               clear hK K
               refine done_ (done_of HT_.out (by kernel_rfl)) ?_
               try go_wp2
               go_roundg k2
               case measure => have := HJ3.out; have := HK2.out; omega
               case rel => exact ⟨(wrap64 (x11_2 + 1)), (y506), (.slice (some ⟨go77, 0, none⟩) x495001_2.length co82), (by first | rfl | (simp; done) | (simp [*]; done)), H', ⟨by have := HJ3.out; have := HK2.out; omega⟩, ⟨zr_ (Kd.R_mono (Kd.R_far (p := ⟨go77, (x11_2 : Int).toNat, none⟩) (Kd.R_types HO_8.out GG77.out (by decide)) (fun _ hk => hk.2) (.int .i64 t505)) (fun _ hk => hk.1))⟩, ⟨zr_ (Kd.R_mono (Kd.R_far (p := ⟨go77, (x11_2 : Int).toNat, none⟩) (Kd.R_types HO_495000.out GG77.out (by decide)) (fun _ hk => hk.2) (.int .i64 t505)) (fun _ hk => hk.1))⟩, ⟨zr_ HQ92.out⟩, ⟨by (with_reducible repeat (first | refine blk_drewN ?_ _ | refine blk_drew ?_ | refine blk_alloc ?_ _)); refine blk_far ?_ (by have h_ := Kd.R_ne HO_495001.out BK479.out (by decide); intro e_; exact h_ (by rw [e_]; rfl)) _; (with_reducible repeat (first | refine blk_drewN ?_ _ | refine blk_drew ?_ | refine blk_alloc ?_ _)); exact BK479.out⟩, ⟨by (with_reducible repeat (first | refine blk_drewN ?_ _ | refine blk_drew ?_ | refine blk_alloc ?_ _)); refine blk_far ?_ (by have h_ := Kd.R_ne HO_495001.out BK480.out (by decide); intro e_; exact h_ (by rw [e_]; rfl)) _; (with_reducible repeat (first | refine blk_drewN ?_ _ | refine blk_drew ?_ | refine blk_alloc ?_ _)); exact BK480.out⟩, ⟨by (with_reducible repeat (first | refine blk_drewN ?_ _ | refine blk_drew ?_ | refine blk_alloc ?_ _)); refine blk_far ?_ (by have h_ := Kd.R_ne HO_495001.out BK481.out (by decide); intro e_; exact h_ (by rw [e_]; rfl)) _; (with_reducible repeat (first | refine blk_drewN ?_ _ | refine blk_drew ?_ | refine blk_alloc ?_ _)); exact BK481.out⟩, ⟨by (with_reducible repeat (first | refine blk_drewN ?_ _ | refine blk_drew ?_ | refine blk_alloc ?_ _)); refine blk_far ?_ (by have h_ := Kd.R_ne HO_495001.out BK494.out (by decide); intro e_; exact h_ (by rw [e_]; rfl)) _; (with_reducible repeat (first | refine blk_drewN ?_ _ | refine blk_drew ?_ | refine blk_alloc ?_ _)); exact BK494.out⟩, ⟨by repeat (first | (with_reducible first | exact HB.out | apply below_alloc | apply pw_below_drewN | apply below_drew1 | refine below_set ?_ GB77.out | refine below_set ?_ GE479.out | refine below_set ?_ GE480.out | refine below_set ?_ GE481.out | refine below_set ?_ GE494.out) | exact HB.out)⟩⟩
              ·rw [if_neg c76] at H
               exact absurd H (by simp)
             ·rw [if_neg c74] at H
              exact absurd H (by simp)
            ·rw [if_neg c73] at H
             exact absurd H (by simp)
           ·rw [if_neg c72] at H
            exact absurd H (by simp)
          ·rw [if_neg c71] at H
           exact absurd H (by simp)
         ·rw [if_neg c70] at H
          have c70b0 : (a0 == 1) = false := beq_eq_false_iff_ne.mpr c70
          have c70b1 : (a0 != 1) = true := bne_iff_ne.mpr c70
          by_cases c93 : 0 ≤ t495
          ·rw [if_pos c93] at H
           have c93b0 : decide (0 ≤ t495) = true := decide_eq_true c93
           clear c93
           by_cases c94 : t495 < (l1_1.length : Int)
           ·rw [if_pos c94] at H
            have c94b0 : decide (t495 < (l1_1.length : Int)) = true := decide_eq_true c94
            clear c94
            by_cases c95 : 0 ≤ t497
            ·rw [if_pos c95] at H
             have c95b0 : decide (0 ≤ t497) = true := decide_eq_true c95
             clear c95
             by_cases c96 : t497 < (l2_1.length : Int)
             ·rw [if_pos c96] at H
              have c96b0 : decide (t497 < (l2_1.length : Int)) = true := decide_eq_true c96
              clear c96
              replace H := Option.bind_eq_some_iff.mp H
              obtain ⟨t509, A970, H⟩ := H
              (try dsimp only at H)
              have A97 := Aside0.mk A970
              clear A970
              by_cases c98 : 0 ≤ x11_2
              ·rw [if_pos c98] at H
               have c98b0 : decide (0 ≤ x11_2) = true := decide_eq_true c98
               clear c98
               obtain ⟨y510, hy510⟩ : ∃ y_ : List Int, y_ = (x495001_2.set (x11_2 : Int).toNat t509) := ⟨_, rfl⟩
               replace H : (carouselref5_Each.l0 k2 a0 t484 (wrap64 (x11_2 + 1)) l1_0 l1_1 l2_0 l2_1 t488 y510) = some (r1, r2, r3) := by first | (rw [hy510]; with_reducible exact H) | (have H2_ := (Option.bind_some _ _).symm.trans H; rw [hy510]; with_reducible exact H2_) | (have H2_ := (Option.bind_some _ _).symm.trans H; with_reducible exact H2_) | with_reducible exact H | (rw [hy510]; exact H) | exact H
               have Ny510 := Aside0.mk hy510
               clear hy510
               have H' := Aside0.mk H
               clear H
               have hnb100 := NB494_479.out
               have hnc100 := NB479_494.out
               have hnb101 := NB494_480.out
               have hnc101 := NB480_494.out
               have hnb102 := NB494_481.out
               have hnc102 := NB481_494.out
               have hcz103_0 := zx_ (v := .slice Ao38 t488.length co38) BK494 0
               have hcz103_1 := zx_ (v := u495001) BK494 1
               have hfz103_0 := blk_frozen BK494.out 0
               have hfz103_1 := blk_frozen BK494.out 1
               obtain ⟨Ao104, co104, eo104⟩ := Kd.R_slice HO_495001.out
               subst eo104
               have hnb105 := NB479_480.out
               have hnc105 := NB480_479.out
               have hnb106 := NB479_481.out
               have hnc106 := NB481_479.out
               have hcz107_0 := zx_ (v := .slice A1_0 l1_0.length c1_0) BK479 0
               have hcz107_1 := zx_ (v := .slice A1_1 l1_1.length c1_1) BK479 1
               have hfz107_0 := blk_frozen BK479.out 0
               have hfz107_1 := blk_frozen BK479.out 1
               try go_wp2_with (first | ((with_reducible refine gate_callee (f := 47) rfl ?_); refine zg_ (some 51) Try.func47 #[.slice A1_0 l1_0.length c1_0, .slice Ao35 t484.length co35, .int .i64 x11_2] (h := ?_); (with_reducible refine (carouselref5_From.calls k2 _ _ l1_0 _ _ t484 x11_2 t495 t496 _ ?side1 ?side2 ?side3 ?side4 A45.out).mono ?_); (case side1 => exact zk_ (Kd.C_below HR1_0.out HB.out)); (case side2 => exact HC1_0.out); (case side3 => exact zk_ ((Kd.R_reads' HO_8.out).2.2)); (case side4 => exact (Kd.R_reads' HO_8.out).2.1); rintro e w108 ⟨rfl, hb⟩; refine ⟨_, rfl, ?_⟩; have n0_ := Aside0.mk (Kd.R_below (zr_ HO_8.out) hb); have n1_ := Aside0.mk (Kd.R_below (zr_ HO_495000.out) hb); have n2_ := Aside0.mk (Kd.R_below (zr_ HO_495001.out) hb); have n3_ := Aside0.mk (zl_ BK479 hb); have n4_ := Aside0.mk (zl_ BK480 hb); have n5_ := Aside0.mk (zl_ BK481 hb); have n6_ := Aside0.mk (zl_ BK494 hb); have n7_ := Aside0.mk (below_step (zw4_ HB GE479 GE480 GE481 GE494) hb); clear HO_8 HO_495000 HO_495001 BK479 BK480 BK481 BK494 HB; have HO_8 := n0_; have HO_495000 := n1_; have HO_495001 := n2_; have BK479 := n3_; have BK480 := n4_; have BK481 := n5_; have BK494 := n6_; have HB := n7_; clear n0_ n1_ n2_ n3_ n4_ n5_ n6_ n7_; (try clear hb); (try clear hb2); (try clear hk); (try clear hi); have hnb109 := NB480_481.out; have hnc109 := NB481_480.out; have hcz110_0 := zx_ (v := .slice A2_0 l2_0.length c2_0) BK480 0; have hcz110_1 := zx_ (v := .slice A2_1 l2_1.length c2_1) BK480 1; have hfz110_0 := blk_frozen BK480.out 0; have hfz110_1 := blk_frozen BK480.out 1) | ((with_reducible refine gate_callee (f := 47) rfl ?_); refine zg_ (some 59) Try.func47 #[.slice A2_0 l2_0.length c2_0, .slice Ao35 t484.length co35, .int .i64 x11_2] (h := ?_); (with_reducible refine (carouselref5_From.calls k2 _ _ l2_0 _ _ t484 x11_2 t497 t498 _ ?side1 ?side2 ?side3 ?side4 A46.out).mono ?_); (case side1 => exact zk_ (Kd.C_below HR2_0.out HB.out)); (case side2 => exact HC2_0.out); (case side3 => exact zk_ ((Kd.R_reads' HO_8.out).2.2)); (case side4 => exact (Kd.R_reads' HO_8.out).2.1); rintro e w111 ⟨rfl, hb⟩; refine ⟨_, rfl, ?_⟩; have n0_ := Aside0.mk (Kd.R_below (zr_ HO_8.out) hb); have n1_ := Aside0.mk (Kd.R_below (zr_ HO_495000.out) hb); have n2_ := Aside0.mk (Kd.R_below (zr_ HO_495001.out) hb); have n3_ := Aside0.mk (zl_ BK479 hb); have n4_ := Aside0.mk (zl_ BK480 hb); have n5_ := Aside0.mk (zl_ BK481 hb); have n6_ := Aside0.mk (zl_ BK494 hb); have n7_ := Aside0.mk (below_step (zw4_ HB GE479 GE480 GE481 GE494) hb); clear HO_8 HO_495000 HO_495001 BK479 BK480 BK481 BK494 HB; have HO_8 := n0_; have HO_495000 := n1_; have HO_495001 := n2_; have BK479 := n3_; have BK480 := n4_; have BK481 := n5_; have BK494 := n6_; have HB := n7_; clear n0_ n1_ n2_ n3_ n4_ n5_ n6_ n7_; (try clear hb); (try clear hb2); (try clear hk); (try clear hi)))
               have n0_ := Aside0.mk (Kd.R_drew HO_8.out)
               have n1_ := Aside0.mk (Kd.R_drew HO_495000.out)
               have n2_ := Aside0.mk (Kd.R_drew HO_495001.out)
               have n3_ := Aside0.mk (blk_drew BK479.out)
               have n4_ := Aside0.mk (blk_drew BK480.out)
               have n5_ := Aside0.mk (blk_drew BK481.out)
               have n6_ := Aside0.mk (blk_drew BK494.out)
               have n7_ := Aside0.mk (below_drew1 HB.out)
               clear HO_8
               clear HO_495000
               clear HO_495001
               clear BK479
               clear BK480
               clear BK481
               clear BK494
               clear HB
               have HO_8 := n0_
               have HO_495000 := n1_
               have HO_495001 := n2_
               have BK479 := n3_
               have BK480 := n4_
               have BK481 := n5_
               have BK494 := n6_
               have HB := n7_
               clear n0_ n1_ n2_ n3_ n4_ n5_ n6_ n7_
               have p507 : 0 ≤ (t495 : Int) := of_decide_eq_true (by first | (with_reducible assumption) | assumption)
               have q507 : t495 < (l1_1.length : Int) := of_decide_eq_true (by first | (with_reducible assumption) | assumption)
               obtain ⟨ad507, e507, hx507_0⟩ := Kd.at_int HR1_1.out t495 p507 q507
               have hw507_0 := hx507_0
               cases e507
               replace hx507_0 := (HB.out.cell (World.block_lt_of_cell? w _ hx507_0)).trans hx507_0
               replace p507 := eq_true p507
               replace q507 := eq_true q507
               have p508 : 0 ≤ (t497 : Int) := of_decide_eq_true (by first | (with_reducible assumption) | assumption)
               have q508 : t497 < (l2_1.length : Int) := of_decide_eq_true (by first | (with_reducible assumption) | assumption)
               obtain ⟨ad508, e508, hx508_0⟩ := Kd.at_int HR2_1.out t497 p508 q508
               have hw508_0 := hx508_0
               cases e508
               replace hx508_0 := (HB.out.cell (World.block_lt_of_cell? w _ hx508_0)).trans hx508_0
               replace p508 := eq_true p508
               replace q508 := eq_true q508
               refine start_ (n := 16) (S := fun w' => w'.cell? ⟨gb494, 0, none⟩ = some (.slice Ao38 t488.length co38) ∧ w'.cell? ⟨gb494, 1, none⟩ = some (.slice Ao104 x495001_2.length co104) ∧ w'.cell? ⟨gb479, 0, none⟩ = some (.slice A1_0 l1_0.length c1_0) ∧ w'.cell? ⟨gb479, 1, none⟩ = some (.slice (some ad507) l1_1.length c1_1) ∧ w'.cell? ⟨gb480, 0, none⟩ = some (.slice A2_0 l2_0.length c2_0) ∧ w'.cell? ⟨gb480, 1, none⟩ = some (.slice (some ad508) l2_1.length c2_1) ∧ w'.cell? (ad507.add (t495).toNat) = some (.int .i64 (rd l1_1 t495)) ∧ w'.cell? (ad508.add (t497).toNat) = some (.int .i64 (rd l2_1 t497))) (ds := [15]) #[false, false, false, false, false, false, false, false, false, false, false, false, false, false, false, false] (by kernel_rfl) rfl rfl ⟨(blk_cell BK494.out 0).trans rfl, (blk_cell BK494.out 1).trans rfl, (blk_cell BK479.out 0).trans rfl, (blk_cell BK479.out 1).trans rfl, (blk_cell BK480.out 0).trans rfl, (blk_cell BK480.out 1).trans rfl, ((HB.out.cell (World.block_lt_of_cell? w _ hw507_0)).trans hw507_0), ((HB.out.cell (World.block_lt_of_cell? w _ hw508_0)).trans hw508_0)⟩ (fun hHeld => ?_); refine with_tabW carouselref5_Each.tab13 carouselref5_Each.bits13 (fun HT_ HW_ => ?_)
               generalize w111.drew = w112 at HO_8 HO_495000 HO_495001 BK479 BK480 BK481 BK494 HB hx507_0 hx508_0 hHeld ⊢
               refine zp_ 0 (some 63) (h := ?_)
               refine zp_ 2 (some 65) (h := ?_)
               refine zp_ 3 (some 66) (h := ?_)
               refine zp_ 5 (some 68) (h := ?_)
               refine zp_ 8 (some 71) (h := ?_)
               refine zp_ 10 (some 73) (h := ?_)
               refine zt_ 1 (some 64) (hr := by rintro w' ⟨s0, s1, s2, s3, s4, s5, s6, s7⟩; go_simp; with_reducible rfl) (h := ?_)
               refine zt_ 4 (some 67) (hr := by rintro w' ⟨s0, s1, s2, s3, s4, s5, s6, s7⟩; go_simp; with_reducible rfl) (h := ?_)
               refine zp_ 6 (some 69) (h := ?_)
               refine zt_ 7 (some 70) (hr := by rintro w' ⟨s0, s1, s2, s3, s4, s5, s6, s7⟩; go_simp; with_reducible rfl) (h := ?_)
               refine zt_ 9 (some 72) (hr := by rintro w' ⟨s0, s1, s2, s3, s4, s5, s6, s7⟩; go_simp; with_reducible rfl) (h := ?_)
               refine zp_ 11 (some 74) (h := ?_)
               refine zt_ 12 (some 75) (hr := by rintro w' ⟨s0, s1, s2, s3, s4, s5, s6, s7⟩; go_simp; with_reducible rfl) (h := ?_)
               refine one_ (i := 13) (N := some 76) #[true, true, true, true, true, true, true, true, true, true, true, true, true, true, false, false] rfl rfl (one_of HT_.out (by kernel_rfl)) (by decide) (fun K hK => ?_)
               refine goes_ Try.func50 (by kernel_rfl) rfl #[.int .i64 (rd l1_1 t495), .int .i64 (rd l2_1 t497)] (by rfl) rfl rfl (by (try simp only [List.map_toArray, List.map_cons, List.map_nil]); first | done | rfl | (simp only [List.length_drop, List.length_take]; rfl)) ?_
               with_reducible refine (carouselref1_Mul.calls k2 (rd l1_1 t495) (rd l2_1 t497) t509 _ A97.out).mono ?_
               rintro e w113 ⟨rfl, hb⟩
               refine ⟨_, rfl, ?_⟩
               have n0_ := Aside0.mk (Kd.R_below (zr_ HO_8.out) hb)
               have n1_ := Aside0.mk (Kd.R_below (zr_ HO_495000.out) hb)
               have n2_ := Aside0.mk (Kd.R_below (zr_ HO_495001.out) hb)
               have n3_ := Aside0.mk (zl_ BK479 hb)
               have n4_ := Aside0.mk (zl_ BK480 hb)
               have n5_ := Aside0.mk (zl_ BK481 hb)
               have n6_ := Aside0.mk (zl_ BK494 hb)
               have n7_ := Aside0.mk (below_step (zw4_ HB GE479 GE480 GE481 GE494) hb)
               clear HO_8
               clear HO_495000
               clear HO_495001
               clear BK479
               clear BK480
               clear BK481
               clear BK494
               clear HB
               have HO_8 := n0_
               have HO_495000 := n1_
               have HO_495001 := n2_
               have BK479 := n3_
               have BK480 := n4_
               have BK481 := n5_
               have BK494 := n6_
               have HB := n7_
               clear n0_ n1_ n2_ n3_ n4_ n5_ n6_ n7_
               (try clear hb)
               (try clear hb2)
               (try clear hk)
               (try clear hi)
               have p99 : 0 ≤ (x11_2 : Int) := of_decide_eq_true (by first | (with_reducible assumption) | assumption)
               have q99 : (x11_2 : Int) < ((x495001_2.length : Int) : Int) := of_decide_eq_true (by first | (with_reducible assumption) | assumption)
               obtain ⟨go99, co99, eo99, gb99, gl99, cl99, HG99⟩ := Kd.R_form HO_495001.out (by omega)
               (first | cases eo99 | (injection eo99 with ea_ en_ ec_; (first | subst ea_ | (injection ea_ with ea_; subst ea_)); subst ec_; clear en_))
               have GB99 := Aside0.mk gb99
               have GG99 := Aside0.mk HG99
               clear gb99 gl99 HG99
               obtain ⟨hx99_0, hf99_0⟩ := Kd.R_celln 0 HO_495001.out (x11_2 : Int) p99 q99
               replace p99 := eq_true p99
               replace q99 := eq_true q99
               have HP114 := Kd.R_putn HO_495001.out (x11_2 : Int) t509
               rw [← Ny510.out] at HP114
               have HQ114 := Aside0.mk HP114
               clear HP114
               refine hK.out _ _ ⟨(blk_cell BK494.out 0).trans rfl, (blk_cell BK494.out 1).trans rfl, (blk_cell BK479.out 0).trans rfl, (blk_cell BK479.out 1).trans rfl, (blk_cell BK480.out 0).trans rfl, (blk_cell BK480.out 1).trans rfl, ((HB.out.cell (World.block_lt_of_cell? w _ hw507_0)).trans hw507_0), ((HB.out.cell (World.block_lt_of_cell? w _ hw508_0)).trans hw508_0)⟩ (fun hHeld => ?_)
               clear hK K
               refine norm_ (a' := ?_) ?_ ?_
               rotate_left
               ·show Act.put _ (some 76) _ = _
                simp only [Act.put, List.setIfInBounds_toArray, List.set_cons_zero, List.set_cons_succ, i64_w, i32_w]
                rfl
               refine zp_ 14 (some 77) (h := ?_)
               refine last_ (i := 15) (N := none) #[true, true, true, true, true, true, true, true, true, true, true, true, true, true, true, true] rfl rfl (one_of HT_.out (by kernel_rfl)) (by decide) (fun K hK => ?_)
               refine skip_ (w1 := ?_) (by rfl) rfl ?_ ?_
               rotate_left
               ·go_simp
                rfl
               refine hK.out _ _ ?_
               clear hK K
               refine done_ (done_of HT_.out (by kernel_rfl)) ?_
               try go_wp2
               go_roundg k2
               case measure => have := HJ3.out; have := HK2.out; omega
               case rel => exact ⟨(wrap64 (x11_2 + 1)), (y510), (.slice (some ⟨go99, 0, none⟩) x495001_2.length co104), (by first | rfl | (simp; done) | (simp [*]; done)), H', ⟨by have := HJ3.out; have := HK2.out; omega⟩, ⟨zr_ (Kd.R_mono (Kd.R_far (p := ⟨go99, (x11_2 : Int).toNat, none⟩) (Kd.R_types HO_8.out GG99.out (by decide)) (fun _ hk => hk.2) (.int .i64 t509)) (fun _ hk => hk.1))⟩, ⟨zr_ (Kd.R_mono (Kd.R_far (p := ⟨go99, (x11_2 : Int).toNat, none⟩) (Kd.R_types HO_495000.out GG99.out (by decide)) (fun _ hk => hk.2) (.int .i64 t509)) (fun _ hk => hk.1))⟩, ⟨zr_ HQ114.out⟩, ⟨by (with_reducible repeat (first | refine blk_drewN ?_ _ | refine blk_drew ?_ | refine blk_alloc ?_ _)); refine blk_far ?_ (by have h_ := Kd.R_ne HO_495001.out BK479.out (by decide); intro e_; exact h_ (by rw [e_]; rfl)) _; (with_reducible repeat (first | refine blk_drewN ?_ _ | refine blk_drew ?_ | refine blk_alloc ?_ _)); exact BK479.out⟩, ⟨by (with_reducible repeat (first | refine blk_drewN ?_ _ | refine blk_drew ?_ | refine blk_alloc ?_ _)); refine blk_far ?_ (by have h_ := Kd.R_ne HO_495001.out BK480.out (by decide); intro e_; exact h_ (by rw [e_]; rfl)) _; (with_reducible repeat (first | refine blk_drewN ?_ _ | refine blk_drew ?_ | refine blk_alloc ?_ _)); exact BK480.out⟩, ⟨by (with_reducible repeat (first | refine blk_drewN ?_ _ | refine blk_drew ?_ | refine blk_alloc ?_ _)); refine blk_far ?_ (by have h_ := Kd.R_ne HO_495001.out BK481.out (by decide); intro e_; exact h_ (by rw [e_]; rfl)) _; (with_reducible repeat (first | refine blk_drewN ?_ _ | refine blk_drew ?_ | refine blk_alloc ?_ _)); exact BK481.out⟩, ⟨by (with_reducible repeat (first | refine blk_drewN ?_ _ | refine blk_drew ?_ | refine blk_alloc ?_ _)); refine blk_far ?_ (by have h_ := Kd.R_ne HO_495001.out BK494.out (by decide); intro e_; exact h_ (by rw [e_]; rfl)) _; (with_reducible repeat (first | refine blk_drewN ?_ _ | refine blk_drew ?_ | refine blk_alloc ?_ _)); exact BK494.out⟩, ⟨by repeat (first | (with_reducible first | exact HB.out | apply below_alloc | apply pw_below_drewN | apply below_drew1 | refine below_set ?_ GB99.out | refine below_set ?_ GE479.out | refine below_set ?_ GE480.out | refine below_set ?_ GE481.out | refine below_set ?_ GE494.out) | exact HB.out)⟩⟩
              ·rw [if_neg c98] at H
               exact absurd H (by simp)
             ·rw [if_neg c96] at H
              exact absurd H (by simp)
            ·rw [if_neg c95] at H
             exact absurd H (by simp)
           ·rw [if_neg c94] at H
            exact absurd H (by simp)
          ·rw [if_neg c93] at H
           exact absurd H (by simp)
       ·rw [if_neg c44] at H
        have c44b0 : decide (x11_2 < (x495001_2.length : Int)) = false := decide_eq_false c44
        clear c44
        simp only [Option.some.injEq, Prod.mk.injEq] at H
        obtain ⟨rfl, rfl, rfl⟩ := H
        have hnb115 := NB494_479.out
        have hnc115 := NB479_494.out
        have hnb116 := NB494_480.out
        have hnc116 := NB480_494.out
        have hnb117 := NB494_481.out
        have hnc117 := NB481_494.out
        have hcz118_0 := zx_ (v := .slice Ao38 t488.length co38) BK494 0
        have hcz118_1 := zx_ (v := u495001) BK494 1
        have hfz118_0 := blk_frozen BK494.out 0
        have hfz118_1 := blk_frozen BK494.out 1
        obtain ⟨Ao119, co119, eo119⟩ := Kd.R_slice HO_495001.out
        subst eo119
        have hnb120 := NB481_479.out
        have hnc120 := NB479_481.out
        have hnb121 := NB481_480.out
        have hnc121 := NB480_481.out
        have hcz122_0 := zx_ (v := .slice none 0 0) BK481 0
        have hcz122_1 := zx_ (v := .slice none 0 0) BK481 1
        have hfz122_0 := blk_frozen BK481.out 0
        have hfz122_1 := blk_frozen BK481.out 1
        go_wp2
        refine bodyPost_ret (results_ct rfl _ _ gb481 27 #[.slice Ao38 t488.length co38, .slice Ao119 x495001_2.length co119] (0, 0) _ rfl (by (with_reducible repeat (first | refine blk_drewN ?_ _ | refine blk_drew ?_ | refine blk_alloc ?_ _)); refine blk_put (cs := #[.slice Ao38 t488.length co38, .slice none 0 0]) ?_ 1 _ rfl; (with_reducible repeat (first | refine blk_drewN ?_ _ | refine blk_drew ?_ | refine blk_alloc ?_ _)); refine blk_put (cs := #[.slice none 0 0, .slice none 0 0]) ?_ 0 _ rfl; (with_reducible repeat (first | refine blk_drewN ?_ _ | refine blk_drew ?_ | refine blk_alloc ?_ _)); exact BK481.out) Try.underlying27 rfl (by kernel_rfl)) rfl ?_
        exact ⟨_, _, by first | rfl | (simp [errW_none, errW_some] <;> rfl) | (simp [*, errW_none, errW_some] <;> rfl), zr_ (Kd.R_mono (Kd.R_far (p := ⟨gb481, 1, none⟩) (Kd.R_far (p := ⟨gb481, 0, none⟩) (Kd.R_types HO_495000.out BK481.out (by decide)) (fun _ hk => hk.2) (.slice Ao38 t488.length co38)) (fun _ hk => hk.2) (.slice Ao119 x495001_2.length co119)) (fun _ hk => trivial)), zr_ (Kd.R_mono (Kd.R_far (p := ⟨gb481, 1, none⟩) (Kd.R_far (p := ⟨gb481, 0, none⟩) (Kd.R_types HO_495001.out BK481.out (by decide)) (fun _ hk => hk.2) (.slice Ao38 t488.length co38)) (fun _ hk => hk.2) (.slice Ao119 x495001_2.length co119)) (fun _ hk => trivial)), zw4_ HB GE479 GE480 GE481 GE494⟩
    ·rw [if_neg c27] at H
     have c27b0 : (t485 == 0) = false := beq_eq_false_iff_ne.mpr c27
     have c27b1 : (t485 != 0) = true := bne_iff_ne.mpr c27
     simp only [Option.some.injEq, Prod.mk.injEq] at H
     obtain ⟨rfl, rfl, rfl⟩ := H
     have hnb123 := NB479_480.out
     have hnc123 := NB480_479.out
     have hnb124 := NB479_481.out
     have hnc124 := NB481_479.out
     have hcz125_0 := zx_ (v := .slice A1_0 l1_0.length c1_0) BK479 0
     have hcz125_1 := zx_ (v := .slice A1_1 l1_1.length c1_1) BK479 1
     have hfz125_0 := blk_frozen BK479.out 0
     have hfz125_1 := blk_frozen BK479.out 1
     have hnb126 := NB480_481.out
     have hnc126 := NB481_480.out
     have hcz127_0 := zx_ (v := .slice A2_0 l2_0.length c2_0) BK480 0
     have hcz127_1 := zx_ (v := .slice A2_1 l2_1.length c2_1) BK480 1
     have hfz127_0 := blk_frozen BK480.out 0
     have hfz127_1 := blk_frozen BK480.out 1
     go_wp2_with (first | ((with_reducible refine gate_callee (f := 46) rfl ?_); refine zg_ (some 30) Try.func46 #[.slice A1_0 l1_0.length c1_0, .slice A2_0 l2_0.length c2_0] (h := ?_); (with_reducible refine (carouselref5_Join.calls kj3 _ _ l1_0 _ _ l2_0 t484 t485 _ ?side1 ?side2 ?side3 ?side4 A26.out).mono ?_); (case side1 => exact zk_ (Kd.C_below HR1_0.out HB.out)); (case side2 => exact HC1_0.out); (case side3 => exact zk_ (Kd.C_below HR2_0.out HB.out)); (case side4 => exact HC2_0.out); rintro e w128 ⟨v486, rfl, ho0, hb⟩; refine ⟨_, rfl, ?_⟩; have n0_ := Aside0.mk (Kd.R_lower ho0 (below_size (zw3_ HB GE479 GE480 GE481))); have n1_ := Aside0.mk (zl_ BK479 hb); have n2_ := Aside0.mk (zl_ BK480 hb); have n3_ := Aside0.mk (zl_ BK481 hb); have n4_ := Aside0.mk (below_step (zw3_ HB GE479 GE480 GE481) hb); clear BK479 BK480 BK481 HB; have HO487 := n0_; have BK479 := n1_; have BK480 := n2_; have BK481 := n3_; have HB := n4_; clear n0_ n1_ n2_ n3_ n4_; (try clear hb); (try clear hb2); (try clear hk); (try clear hi); (try clear ho0); have hcz129_0 := zx_ (v := .slice none 0 0) BK481 0; have hcz129_1 := zx_ (v := .slice none 0 0) BK481 1; have hfz129_0 := blk_frozen BK481.out 0; have hfz129_1 := blk_frozen BK481.out 1))
     refine bodyPost_ret (results_ct rfl _ _ gb481 27 #[.slice none 0 0, .slice none 0 0] (0, 0) _ rfl (by (with_reducible repeat (first | refine blk_drewN ?_ _ | refine blk_drew ?_ | refine blk_alloc ?_ _)); refine blk_put (cs := #[.slice none 0 0, .slice none 0 0]) ?_ 1 _ rfl; (with_reducible repeat (first | refine blk_drewN ?_ _ | refine blk_drew ?_ | refine blk_alloc ?_ _)); refine blk_put (cs := #[.slice none 0 0, .slice none 0 0]) ?_ 0 _ rfl; (with_reducible repeat (first | refine blk_drewN ?_ _ | refine blk_drew ?_ | refine blk_alloc ?_ _)); exact BK481.out) Try.underlying27 rfl (by kernel_rfl)) rfl ?_
     exact ⟨_, _, by first | rfl | (simp [errW_none, errW_some] <;> rfl) | (simp [*, errW_none, errW_some] <;> rfl), by first | exact Kd.R_nil _ _ _ _ _ | exact Kd.N_nil _ _ _ _ _ | exact Kd.V_nil _ _ _ _ _ | exact Kd.Q_nil _ _ _ _ _ | exact Kd.S_nil _ _ _ _ _, by first | exact Kd.R_nil _ _ _ _ _ | exact Kd.N_nil _ _ _ _ _ | exact Kd.V_nil _ _ _ _ _ | exact Kd.Q_nil _ _ _ _ _ | exact Kd.S_nil _ _ _ _ _, zw3_ HB GE479 GE480 GE481⟩

end Go.Proofs.Ytbdhabpplidgfaa.PTensEach
