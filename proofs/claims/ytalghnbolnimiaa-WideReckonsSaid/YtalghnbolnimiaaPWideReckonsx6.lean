/- The functions that the law WideReckons reaches, as Lean functions, and that each call of the Go function does what its Lean function says, wherever that one answers. Written by a program of mine over the print of the kit; Lean checks it. -/
import Derived.Test.YtalghnbolnimiaaPWideReckonsx0
import Derived.Test.YtalghnbolnimiaaPWideReckonsx5
namespace Go.Proofs.Ytalghnbolnimiaa.PWideReckons
open Go.RowKit Go.Proofs.YtalghnbolnimiaaW.PrintWords Go.Proofs.YtalghnbolnimiaaW.PrintLast Go.Proofs.YtalghnbolnimiaaW.PrintMore
attribute [local go_sem] max2_int min2_int max_two min_two max_three min_three max_four min_four   -- for this text's walks alone
theorem unxor_20 : (if IntKind.u64.signed = true then (-1 : Int) else IntKind.u64.max) = 18446744073709551615 := rfl
attribute [local go_sem] unxor_20
set_option linter.unusedVariables false
set_option linter.unusedSimpArgs false

/-! ### carouselref1_Plus: function 20 -/
def carouselref1_Plus.f (a0_0 : Bool) (a0_1 : Int) (a0_2 : Int) (a0_3 : Int) (a0_4 : Int) (a1_0 : Bool) (a1_1 : Int) (a1_2 : Int) (a1_3 : Int) (a1_4 : Int) : Option (Bool × Int × Int × Int × Int) := if (a0_0 == a1_0) = true then ((carouselref1_plus.f a0_1 a0_2 a0_3 a0_4 a1_1 a1_2 a1_3 a1_4).bind fun bt161 => (some (a0_0, bt161.1, bt161.2.1, bt161.2.2.1, bt161.2.2.2))) else ((carouselref1_less.f a0_1 a0_2 a0_3 a0_4 a1_1 a1_2 a1_3 a1_4).bind fun t165 => (if t165 = true then ((carouselref1_minus.f a1_1 a1_2 a1_3 a1_4 a0_1 a0_2 a0_3 a0_4).bind fun bt166 => (some (a1_0, bt166.1, bt166.2.1, bt166.2.2.1, bt166.2.2.2))) else ((carouselref1_minus.f a0_1 a0_2 a0_3 a0_4 a1_1 a1_2 a1_3 a1_4).bind fun bt170 => (some (a0_0, bt170.1, bt170.2.1, bt170.2.2.1, bt170.2.2.2)))))
def carouselref1_Plus.T2 : Bool × List (List Nat × List Nat) := (true, [([], []), ([0], [0]), ([], []), ([2], [2]), ([], []), ([4], [4]), ([3, 5], [3, 5]), ([1, 6], [1, 6]), ([7, 6, 0, 1, 2, 3, 4, 5, 6, 7], [7])])
def carouselref1_Plus.B2 : List Nat := [0, 1, 0, 4, 0, 16, 60, 127, 255]
theorem carouselref1_Plus.tab2 : rtab .any (opsOf Try.f20 2) = carouselref1_Plus.T2 := by kernel_rfl
theorem carouselref1_Plus.bits2 : waitsOk carouselref1_Plus.T2.2 carouselref1_Plus.B2 = true := by kernel_rfl
def carouselref1_Plus.T4 : Bool × List (List Nat × List Nat) := (true, [([], []), ([0], [0]), ([], []), ([2], [2]), ([], []), ([4], [4]), ([3, 5], [3, 5]), ([1, 6], [1, 6]), ([7, 6, 0, 1, 2, 3, 4, 5, 6, 7], [7])])
def carouselref1_Plus.B4 : List Nat := [0, 1, 0, 4, 0, 16, 60, 127, 255]
theorem carouselref1_Plus.tab4 : rtab .any (opsOf Try.f20 4) = carouselref1_Plus.T4 := by kernel_rfl
theorem carouselref1_Plus.bits4 : waitsOk carouselref1_Plus.T4.2 carouselref1_Plus.B4 = true := by kernel_rfl
def carouselref1_Plus.T5 : Bool × List (List Nat × List Nat) := (true, [([], []), ([0], [0]), ([], []), ([2], [2]), ([], []), ([4], [4]), ([3, 5], [3, 5]), ([1, 6], [1, 6]), ([7, 6, 0, 1, 2, 3, 4, 5, 6, 7], [7])])
def carouselref1_Plus.B5 : List Nat := [0, 1, 0, 4, 0, 16, 60, 127, 255]
theorem carouselref1_Plus.tab5 : rtab .any (opsOf Try.f20 5) = carouselref1_Plus.T5 := by kernel_rfl
theorem carouselref1_Plus.bits5 : waitsOk carouselref1_Plus.T5.2 carouselref1_Plus.B5 = true := by kernel_rfl
set_option maxHeartbeats 8000000 in
set_option maxRecDepth 100000 in
theorem carouselref1_Plus.calls (a0_0 : Bool) (a0_1 : Int) (a0_2 : Int) (a0_3 : Int) (a0_4 : Int) (a1_0 : Bool) (a1_1 : Int) (a1_2 : Int) (a1_3 : Int) (a1_4 : Int) (r1 : Bool) (r2 : Int) (r3 : Int) (r4 : Int) (r5 : Int) (w : World) (h : carouselref1_Plus.f a0_0 a0_1 a0_2 a0_3 a0_4 a1_0 a1_1 a1_2 a1_3 a1_4 = some (r1, r2, r3, r4, r5)) :
    Calls Try.prog 20 #[.agg #[.bool a0_0, .int .u64 a0_1, .int .u64 a0_2, .int .u64 a0_3, .int .u64 a0_4], .agg #[.bool a1_0, .int .u64 a1_1, .int .u64 a1_2, .int .u64 a1_3, .int .u64 a1_4]] w fun e w' => e = .returned (.agg #[.bool r1, .int .u64 r2, .int .u64 r3, .int .u64 r4, .int .u64 r5]) ∧ Below w.heap.size w w' := by
  have hu31 := Try.underlying31
  have hu29 := Try.underlying29
  have HB := Aside0.mk (Below.refl w.heap.size w)
  have H : (if (a0_0 == a1_0) = true then ((carouselref1_plus.f a0_1 a0_2 a0_3 a0_4 a1_1 a1_2 a1_3 a1_4).bind fun bt161 => (some (a0_0, bt161.1, bt161.2.1, bt161.2.2.1, bt161.2.2.2))) else ((carouselref1_less.f a0_1 a0_2 a0_3 a0_4 a1_1 a1_2 a1_3 a1_4).bind fun t165 => (if t165 = true then ((carouselref1_minus.f a1_1 a1_2 a1_3 a1_4 a0_1 a0_2 a0_3 a0_4).bind fun bt166 => (some (a1_0, bt166.1, bt166.2.1, bt166.2.2.1, bt166.2.2.2))) else ((carouselref1_minus.f a0_1 a0_2 a0_3 a0_4 a1_1 a1_2 a1_3 a1_4).bind fun bt170 => (some (a0_0, bt170.1, bt170.2.1, bt170.2.2.1, bt170.2.2.2)))))) = some (r1, r2, r3, r4, r5) := h
  clear h
  by_cases c3 : (a0_0 == a1_0) = true
  · rw [if_pos c3] at H
    have c3b0 : (a0_0 == a1_0) = true := c3
    (try (have c3b1 : decide (a0_0 = a1_0) = true := by simpa using c3))
    (try (have c3b2 : (a0_0 == a1_0) = true := by simpa using c3))
    clear c3
    replace H := Option.bind_eq_some_iff.mp H
    obtain ⟨⟨t161, t162, t163, t164⟩, A40, H⟩ := H
    replace H : (some (a0_0, t161, t162, t163, t164)) = some (r1, r2, r3, r4, r5) := H
    have A4 := Aside0.mk A40
    clear A40
    simp only [Option.some.injEq, Prod.mk.injEq] at H
    obtain ⟨rfl, rfl, rfl, rfl, rfl⟩ := H
    go_enter Try.func20, Try.ntmps20
    try go_wp2_with (first | ((with_reducible refine gate_dst (N := 2) rfl ?_); refine box_event ?hg (N := 2) ?hd (cs := #[.bool a0_0, .int .u64 a0_1, .int .u64 a0_2, .int .u64 a0_3, .int .u64 a0_4]) (t := 31) ?hr ?_; (case hd => rfl); (case hg => rfl); (case hr => first | (go_simp; done) | (go_simp; rfl)); intro gb158 hg w5 hbox hb; have n0_ := Aside0.mk (below_step (by repeat (first | (with_reducible first | exact HB.out | apply below_alloc | apply pw_below_drewN | apply below_drew1) | exact HB.out)) hb); have n1_ := Aside0.mk (hbox); have n2_ := Aside0.mk ((by rw [hg]; exact (below_size (by repeat (first | (with_reducible first | exact HB.out | apply below_alloc | apply pw_below_drewN | apply below_drew1) | exact HB.out))) : w.heap.size ≤ gb158)); have n3_ := Aside0.mk ((by rw [hg]; exact (below_size (by repeat (first | (with_reducible first | exact HB.out | apply below_alloc | apply pw_below_drewN | apply below_drew1) | exact HB.out))) : w.heap.size ≤ gb158)); clear HB; have HB := n0_; have BK158 := n1_; have GW158 := n2_; have GE158 := n3_; clear n0_ n1_ n2_ n3_; clear hb hbox hg) | ((with_reducible refine gate_dst (N := 3) rfl ?_); refine box_event ?hg (N := 3) ?hd (cs := #[.bool a1_0, .int .u64 a1_1, .int .u64 a1_2, .int .u64 a1_3, .int .u64 a1_4]) (t := 31) ?hr ?_; (case hd => rfl); (case hg => rfl); (case hr => first | (go_simp; done) | (go_simp; rfl)); intro gb159 hg w6 hbox hb; have n0_ := Aside0.mk (blk_below (g := gb158) (o := .cells #[.bool a0_0, .int .u64 a0_1, .int .u64 a0_2, .int .u64 a0_3, .int .u64 a0_4] 31 (0, 0)) (by (with_reducible repeat (first | refine blk_drewN ?_ _ | refine blk_drew ?_ | refine blk_alloc ?_ _)); exact BK158.out) hb); have n1_ := Aside0.mk (below_step (by repeat (first | (with_reducible first | exact HB.out | apply below_alloc | apply pw_below_drewN | apply below_drew1 | refine below_set ?_ GE158.out) | exact HB.out)) hb); have n2_ := Aside0.mk (hbox); have n3_ := Aside0.mk ((by rw [hg]; exact (below_size (by repeat (first | (with_reducible first | exact HB.out | apply below_alloc | apply pw_below_drewN | apply below_drew1 | refine below_set ?_ GE158.out) | exact HB.out))) : w.heap.size ≤ gb159)); have n4_ := Aside0.mk ((by rw [hg]; exact (below_size (by repeat (first | (with_reducible first | exact HB.out | apply below_alloc | apply pw_below_drewN | apply below_drew1 | refine below_set ?_ GE158.out) | exact HB.out))) : w.heap.size ≤ gb159)); have n5_ := Aside0.mk ((by rw [hg]; exact Nat.ne_of_lt (blk_lt (g := gb158) (o := .cells #[.bool a0_0, .int .u64 a0_1, .int .u64 a0_2, .int .u64 a0_3, .int .u64 a0_4] 31 (0, 0)) (by (with_reducible repeat (first | refine blk_drewN ?_ _ | refine blk_drew ?_ | refine blk_alloc ?_ _)); exact BK158.out)) : gb158 ≠ gb159)); have n6_ := Aside0.mk ((by rw [hg]; exact Nat.ne_of_gt (blk_lt (g := gb158) (o := .cells #[.bool a0_0, .int .u64 a0_1, .int .u64 a0_2, .int .u64 a0_3, .int .u64 a0_4] 31 (0, 0)) (by (with_reducible repeat (first | refine blk_drewN ?_ _ | refine blk_drew ?_ | refine blk_alloc ?_ _)); exact BK158.out)) : gb159 ≠ gb158)); clear BK158; clear HB; have BK158 := n0_; have HB := n1_; have BK159 := n2_; have GW159 := n3_; have GE159 := n4_; have NB158_159 := n5_; have NB159_158 := n6_; clear n0_ n1_ n2_ n3_ n4_ n5_ n6_; clear hb hbox hg) | ((with_reducible refine gate_dst (N := 4) rfl ?_); refine box_event ?hg (N := 4) ?hd (cs := #[.bool false, .int .u64 0, .int .u64 0, .int .u64 0, .int .u64 0]) (t := 31) ?hr ?_; (case hd => rfl); (case hg => rfl); (case hr => first | (go_simp; done) | (go_simp; rfl)); intro gb160 hg w7 hbox hb; have n0_ := Aside0.mk (blk_below (g := gb158) (o := .cells #[.bool a0_0, .int .u64 a0_1, .int .u64 a0_2, .int .u64 a0_3, .int .u64 a0_4] 31 (0, 0)) (by (with_reducible repeat (first | refine blk_drewN ?_ _ | refine blk_drew ?_ | refine blk_alloc ?_ _)); exact BK158.out) hb); have n1_ := Aside0.mk (blk_below (g := gb159) (o := .cells #[.bool a1_0, .int .u64 a1_1, .int .u64 a1_2, .int .u64 a1_3, .int .u64 a1_4] 31 (0, 0)) (by (with_reducible repeat (first | refine blk_drewN ?_ _ | refine blk_drew ?_ | refine blk_alloc ?_ _)); exact BK159.out) hb); have n2_ := Aside0.mk (below_step (by repeat (first | (with_reducible first | exact HB.out | apply below_alloc | apply pw_below_drewN | apply below_drew1 | refine below_set ?_ GE158.out | refine below_set ?_ GE159.out) | exact HB.out)) hb); have n3_ := Aside0.mk (hbox); have n4_ := Aside0.mk ((by rw [hg]; exact (below_size (by repeat (first | (with_reducible first | exact HB.out | apply below_alloc | apply pw_below_drewN | apply below_drew1 | refine below_set ?_ GE158.out | refine below_set ?_ GE159.out) | exact HB.out))) : w.heap.size ≤ gb160)); have n5_ := Aside0.mk ((by rw [hg]; exact (below_size (by repeat (first | (with_reducible first | exact HB.out | apply below_alloc | apply pw_below_drewN | apply below_drew1 | refine below_set ?_ GE158.out | refine below_set ?_ GE159.out) | exact HB.out))) : w.heap.size ≤ gb160)); have n6_ := Aside0.mk ((by rw [hg]; exact Nat.ne_of_lt (blk_lt (g := gb158) (o := .cells #[.bool a0_0, .int .u64 a0_1, .int .u64 a0_2, .int .u64 a0_3, .int .u64 a0_4] 31 (0, 0)) (by (with_reducible repeat (first | refine blk_drewN ?_ _ | refine blk_drew ?_ | refine blk_alloc ?_ _)); exact BK158.out)) : gb158 ≠ gb160)); have n7_ := Aside0.mk ((by rw [hg]; exact Nat.ne_of_gt (blk_lt (g := gb158) (o := .cells #[.bool a0_0, .int .u64 a0_1, .int .u64 a0_2, .int .u64 a0_3, .int .u64 a0_4] 31 (0, 0)) (by (with_reducible repeat (first | refine blk_drewN ?_ _ | refine blk_drew ?_ | refine blk_alloc ?_ _)); exact BK158.out)) : gb160 ≠ gb158)); have n8_ := Aside0.mk ((by rw [hg]; exact Nat.ne_of_lt (blk_lt (g := gb159) (o := .cells #[.bool a1_0, .int .u64 a1_1, .int .u64 a1_2, .int .u64 a1_3, .int .u64 a1_4] 31 (0, 0)) (by (with_reducible repeat (first | refine blk_drewN ?_ _ | refine blk_drew ?_ | refine blk_alloc ?_ _)); exact BK159.out)) : gb159 ≠ gb160)); have n9_ := Aside0.mk ((by rw [hg]; exact Nat.ne_of_gt (blk_lt (g := gb159) (o := .cells #[.bool a1_0, .int .u64 a1_1, .int .u64 a1_2, .int .u64 a1_3, .int .u64 a1_4] 31 (0, 0)) (by (with_reducible repeat (first | refine blk_drewN ?_ _ | refine blk_drew ?_ | refine blk_alloc ?_ _)); exact BK159.out)) : gb160 ≠ gb159)); clear BK158; clear BK159; clear HB; have BK158 := n0_; have BK159 := n1_; have HB := n2_; have BK160 := n3_; have GW160 := n4_; have GE160 := n5_; have NB158_160 := n6_; have NB160_158 := n7_; have NB159_160 := n8_; have NB160_159 := n9_; clear n0_ n1_ n2_ n3_ n4_ n5_ n6_ n7_ n8_ n9_; clear hb hbox hg; have hnb8 := NB158_159.out; have hnc8 := NB159_158.out; have hnb9 := NB158_160.out; have hnc9 := NB160_158.out; have hcz10_0 : w7.cell? ⟨gb158, 0, none⟩ = some (.bool a0_0) := (blk_cell BK158.out 0).trans rfl; have hcz10_1 : w7.cell? ⟨gb158, 1, none⟩ = some (.int .u64 a0_1) := (blk_cell BK158.out 1).trans rfl; have hcz10_2 : w7.cell? ⟨gb158, 2, none⟩ = some (.int .u64 a0_2) := (blk_cell BK158.out 2).trans rfl; have hcz10_3 : w7.cell? ⟨gb158, 3, none⟩ = some (.int .u64 a0_3) := (blk_cell BK158.out 3).trans rfl; have hcz10_4 : w7.cell? ⟨gb158, 4, none⟩ = some (.int .u64 a0_4) := (blk_cell BK158.out 4).trans rfl; have hfz10_0 := blk_frozen BK158.out 0; have hfz10_1 := blk_frozen BK158.out 1; have hfz10_2 := blk_frozen BK158.out 2; have hfz10_3 := blk_frozen BK158.out 3; have hfz10_4 := blk_frozen BK158.out 4; have hnb11 := NB159_160.out; have hnc11 := NB160_159.out; have hcz12_0 : w7.cell? ⟨gb159, 0, none⟩ = some (.bool a1_0) := (blk_cell BK159.out 0).trans rfl; have hcz12_1 : w7.cell? ⟨gb159, 1, none⟩ = some (.int .u64 a1_1) := (blk_cell BK159.out 1).trans rfl; have hcz12_2 : w7.cell? ⟨gb159, 2, none⟩ = some (.int .u64 a1_2) := (blk_cell BK159.out 2).trans rfl; have hcz12_3 : w7.cell? ⟨gb159, 3, none⟩ = some (.int .u64 a1_3) := (blk_cell BK159.out 3).trans rfl; have hcz12_4 : w7.cell? ⟨gb159, 4, none⟩ = some (.int .u64 a1_4) := (blk_cell BK159.out 4).trans rfl; have hfz12_0 := blk_frozen BK159.out 0; have hfz12_1 := blk_frozen BK159.out 1; have hfz12_2 := blk_frozen BK159.out 2; have hfz12_3 := blk_frozen BK159.out 3; have hfz12_4 := blk_frozen BK159.out 4))
    have n0_ := Aside0.mk (blk_drew BK158.out)
    have n1_ := Aside0.mk (blk_drew BK159.out)
    have n2_ := Aside0.mk (blk_drew BK160.out)
    have n3_ := Aside0.mk (below_drew1 HB.out)
    clear BK158
    clear BK159
    clear BK160
    clear HB
    have BK158 := n0_
    have BK159 := n1_
    have BK160 := n2_
    have HB := n3_
    clear n0_ n1_ n2_ n3_
    refine start_ (n := 9) (S := fun w' => w'.cell? ⟨gb158, 0, none⟩ = some (.bool a0_0) ∧ w'.cell? ⟨gb158, 1, none⟩ = some (.int .u64 a0_1) ∧ w'.cell? ⟨gb158, 2, none⟩ = some (.int .u64 a0_2) ∧ w'.cell? ⟨gb158, 3, none⟩ = some (.int .u64 a0_3) ∧ w'.cell? ⟨gb158, 4, none⟩ = some (.int .u64 a0_4) ∧ w'.cell? ⟨gb159, 0, none⟩ = some (.bool a1_0) ∧ w'.cell? ⟨gb159, 1, none⟩ = some (.int .u64 a1_1) ∧ w'.cell? ⟨gb159, 2, none⟩ = some (.int .u64 a1_2) ∧ w'.cell? ⟨gb159, 3, none⟩ = some (.int .u64 a1_3) ∧ w'.cell? ⟨gb159, 4, none⟩ = some (.int .u64 a1_4)) (ds := []) #[false, false, false, false, false, false, false, false, false] (by kernel_rfl) rfl rfl ⟨(blk_cell BK158.out 0).trans rfl, (blk_cell BK158.out 1).trans rfl, (blk_cell BK158.out 2).trans rfl, (blk_cell BK158.out 3).trans rfl, (blk_cell BK158.out 4).trans rfl, (blk_cell BK159.out 0).trans rfl, (blk_cell BK159.out 1).trans rfl, (blk_cell BK159.out 2).trans rfl, (blk_cell BK159.out 3).trans rfl, (blk_cell BK159.out 4).trans rfl⟩ (fun hHeld => ?_); refine with_tabW carouselref1_Plus.tab2 carouselref1_Plus.bits2 (fun HT_ HW_ => ?_)
    generalize w7.drew = w13 at BK158 BK159 BK160 HB hHeld ⊢
    refine pure_ (i := 0) (N := some 10) (v := ?_) (a' := ?_) #[true, false, false, false, false, false, false, false, false] rfl rfl (any_of HT_.out (by kernel_rfl)) (fun _ _ _ h => h) (Or.inl ⟨by rfl, ?_⟩) ?_ ?_
    rotate_left
    · intro w'
      go_simp
      with_reducible rfl
    rotate_left
    · simp only [Act.put, List.setIfInBounds_toArray, List.set_cons_zero, List.set_cons_succ, i64_w, i32_w]
      rfl
    refine pure_ (i := 2) (N := some 12) (v := ?_) (a' := ?_) #[true, false, true, false, false, false, false, false, false] rfl rfl (any_of HT_.out (by kernel_rfl)) (fun _ _ _ h => h) (Or.inl ⟨by rfl, ?_⟩) ?_ ?_
    rotate_left
    · intro w'
      go_simp
      with_reducible rfl
    rotate_left
    · simp only [Act.put, List.setIfInBounds_toArray, List.set_cons_zero, List.set_cons_succ, i64_w, i32_w]
      rfl
    refine pure_ (i := 4) (N := some 14) (v := ?_) (a' := ?_) #[true, false, true, false, true, false, false, false, false] rfl rfl (any_of HT_.out (by kernel_rfl)) (fun _ _ _ h => h) (Or.inl ⟨by rfl, ?_⟩) ?_ ?_
    rotate_left
    · intro w'
      go_simp
      with_reducible rfl
    rotate_left
    · simp only [Act.put, List.setIfInBounds_toArray, List.set_cons_zero, List.set_cons_succ, i64_w, i32_w]
      rfl
    refine take_ (i := 1) (N := some 11) (v := ?_) (a' := ?_) #[true, true, true, false, true, false, false, false, false] rfl rfl (take_ofW HT_.out HW_.out (by kernel_rfl)) (fun _ _ _ h => h) (Or.inl ⟨by rfl, ?_⟩) hHeld ?_ ?_
    rotate_left
    · rintro w' ⟨s0, s1, s2, s3, s4, s5, s6, s7, s8, s9⟩
      go_simp
      with_reducible rfl
    rotate_left
    · simp only [Act.put, List.setIfInBounds_toArray, List.set_cons_zero, List.set_cons_succ, i64_w, i32_w]
      rfl
    refine take_ (i := 3) (N := some 13) (v := ?_) (a' := ?_) #[true, true, true, true, true, false, false, false, false] rfl rfl (take_ofW HT_.out HW_.out (by kernel_rfl)) (fun _ _ _ h => h) (Or.inl ⟨by rfl, ?_⟩) hHeld ?_ ?_
    rotate_left
    · rintro w' ⟨s0, s1, s2, s3, s4, s5, s6, s7, s8, s9⟩
      go_simp
      with_reducible rfl
    rotate_left
    · simp only [Act.put, List.setIfInBounds_toArray, List.set_cons_zero, List.set_cons_succ, i64_w, i32_w]
      rfl
    refine take_ (i := 5) (N := some 15) (v := ?_) (a' := ?_) #[true, true, true, true, true, true, false, false, false] rfl rfl (take_ofW HT_.out HW_.out (by kernel_rfl)) (fun _ _ _ h => h) (Or.inl ⟨by rfl, ?_⟩) hHeld ?_ ?_
    rotate_left
    · rintro w' ⟨s0, s1, s2, s3, s4, s5, s6, s7, s8, s9⟩
      go_simp
      with_reducible rfl
    rotate_left
    · simp only [Act.put, List.setIfInBounds_toArray, List.set_cons_zero, List.set_cons_succ, i64_w, i32_w]
      rfl
    refine one_ (i := 6) (N := some 16) #[true, true, true, true, true, true, true, false, false] rfl rfl (one_of HT_.out (by kernel_rfl)) (by decide) (fun K hK => ?_)
    refine goes_ Try.func42 (by kernel_rfl) rfl #[.agg #[.int .u64 a0_1, .int .u64 a0_2, .int .u64 a0_3, .int .u64 a0_4], .agg #[.int .u64 a1_1, .int .u64 a1_2, .int .u64 a1_3, .int .u64 a1_4]] (by rfl) rfl rfl (by (try simp only [List.map_toArray, List.map_cons, List.map_nil]); first | done | rfl | (simp only [List.length_drop, List.length_take]; rfl)) ?_
    with_reducible refine (carouselref1_plus.calls a0_1 a0_2 a0_3 a0_4 a1_1 a1_2 a1_3 a1_4 t161 t162 t163 t164 _ A4.out).mono ?_
    rintro e w14 ⟨rfl, hb⟩
    refine ⟨_, rfl, ?_⟩
    have n0_ := Aside0.mk (blk_below (g := gb158) (o := .cells #[.bool a0_0, .int .u64 a0_1, .int .u64 a0_2, .int .u64 a0_3, .int .u64 a0_4] 31 (0, 0)) (by (with_reducible repeat (first | refine blk_drewN ?_ _ | refine blk_drew ?_ | refine blk_alloc ?_ _)); exact BK158.out) hb)
    have n1_ := Aside0.mk (blk_below (g := gb159) (o := .cells #[.bool a1_0, .int .u64 a1_1, .int .u64 a1_2, .int .u64 a1_3, .int .u64 a1_4] 31 (0, 0)) (by (with_reducible repeat (first | refine blk_drewN ?_ _ | refine blk_drew ?_ | refine blk_alloc ?_ _)); exact BK159.out) hb)
    have n2_ := Aside0.mk (blk_below (g := gb160) (o := .cells #[.bool false, .int .u64 0, .int .u64 0, .int .u64 0, .int .u64 0] 31 (0, 0)) (by (with_reducible repeat (first | refine blk_drewN ?_ _ | refine blk_drew ?_ | refine blk_alloc ?_ _)); exact BK160.out) hb)
    have n3_ := Aside0.mk (below_step (by repeat (first | (with_reducible first | exact HB.out | apply below_alloc | apply pw_below_drewN | apply below_drew1 | refine below_set ?_ GE158.out | refine below_set ?_ GE159.out | refine below_set ?_ GE160.out) | exact HB.out)) hb)
    clear BK158
    clear BK159
    clear BK160
    clear HB
    have BK158 := n0_
    have BK159 := n1_
    have BK160 := n2_
    have HB := n3_
    clear n0_ n1_ n2_ n3_
    (try clear hb)
    (try clear hb2)
    (try clear hk)
    (try clear hi)
    refine hK.out _ _ ⟨(blk_cell BK158.out 0).trans rfl, (blk_cell BK158.out 1).trans rfl, (blk_cell BK158.out 2).trans rfl, (blk_cell BK158.out 3).trans rfl, (blk_cell BK158.out 4).trans rfl, (blk_cell BK159.out 0).trans rfl, (blk_cell BK159.out 1).trans rfl, (blk_cell BK159.out 2).trans rfl, (blk_cell BK159.out 3).trans rfl, (blk_cell BK159.out 4).trans rfl⟩ (fun hHeld => ?_)
    clear hK K
    refine norm_ (a' := ?_) ?_ ?_
    rotate_left
    · show Act.put _ (some 16) _ = _
      simp only [Act.put, List.setIfInBounds_toArray, List.set_cons_zero, List.set_cons_succ, i64_w, i32_w]
      rfl
    refine pure_ (i := 7) (N := some 17) (v := ?_) (a' := ?_) #[true, true, true, true, true, true, true, true, false] rfl rfl (any_of HT_.out (by kernel_rfl)) (fun _ _ _ h => h) (Or.inl ⟨by rfl, ?_⟩) ?_ ?_
    rotate_left
    · intro w'
      go_simp
      with_reducible rfl
    rotate_left
    · simp only [Act.put, List.setIfInBounds_toArray, List.set_cons_zero, List.set_cons_succ, i64_w, i32_w]
      rfl
    refine one_ (i := 8) (N := none) #[true, true, true, true, true, true, true, true, true] rfl rfl (one_of HT_.out (by kernel_rfl)) (by decide) (fun K hK => ?_)
    have hs15 : w14.cell? ⟨gb160, 0, none⟩ = some (.bool false) := (blk_cell BK160.out 0).trans rfl
    have hfs15 := blk_frozen BK160.out 0
    have hns15_0 := NB158_160.out
    have hns15_1 := NB159_160.out
    have hms15_0 := NB160_158.out
    have hms15_1 := NB160_159.out
    have hs16 : w14.cell? ⟨gb160, 1, none⟩ = some (.int .u64 0) := (blk_cell BK160.out 1).trans rfl
    have hfs16 := blk_frozen BK160.out 1
    have hns16_0 := NB158_160.out
    have hns16_1 := NB159_160.out
    have hms16_0 := NB160_158.out
    have hms16_1 := NB160_159.out
    have hs17 : w14.cell? ⟨gb160, 2, none⟩ = some (.int .u64 0) := (blk_cell BK160.out 2).trans rfl
    have hfs17 := blk_frozen BK160.out 2
    have hns17_0 := NB158_160.out
    have hns17_1 := NB159_160.out
    have hms17_0 := NB160_158.out
    have hms17_1 := NB160_159.out
    have hs18 : w14.cell? ⟨gb160, 3, none⟩ = some (.int .u64 0) := (blk_cell BK160.out 3).trans rfl
    have hfs18 := blk_frozen BK160.out 3
    have hns18_0 := NB158_160.out
    have hns18_1 := NB159_160.out
    have hms18_0 := NB160_158.out
    have hms18_1 := NB160_159.out
    have hs19 : w14.cell? ⟨gb160, 4, none⟩ = some (.int .u64 0) := (blk_cell BK160.out 4).trans rfl
    have hfs19 := blk_frozen BK160.out 4
    have hns19_0 := NB158_160.out
    have hns19_1 := NB159_160.out
    have hms19_0 := NB160_158.out
    have hms19_1 := NB160_159.out
    refine skip_ (w1 := ?_) (by rfl) rfl ?_ ?_
    rotate_left
    · go_simp
      rfl
    refine hK.out _ _ ⟨((cell_far (p := ⟨gb160, _, none⟩) NB158_160.out _).trans (((cell_far (p := ⟨gb160, _, none⟩) NB158_160.out _).trans (((cell_far (p := ⟨gb160, _, none⟩) NB158_160.out _).trans (((cell_far (p := ⟨gb160, _, none⟩) NB158_160.out _).trans (((cell_far (p := ⟨gb160, _, none⟩) NB158_160.out _).trans (hHeld.1)))))))))), ((cell_far (p := ⟨gb160, _, none⟩) NB158_160.out _).trans (((cell_far (p := ⟨gb160, _, none⟩) NB158_160.out _).trans (((cell_far (p := ⟨gb160, _, none⟩) NB158_160.out _).trans (((cell_far (p := ⟨gb160, _, none⟩) NB158_160.out _).trans (((cell_far (p := ⟨gb160, _, none⟩) NB158_160.out _).trans (hHeld.2.1)))))))))), ((cell_far (p := ⟨gb160, _, none⟩) NB158_160.out _).trans (((cell_far (p := ⟨gb160, _, none⟩) NB158_160.out _).trans (((cell_far (p := ⟨gb160, _, none⟩) NB158_160.out _).trans (((cell_far (p := ⟨gb160, _, none⟩) NB158_160.out _).trans (((cell_far (p := ⟨gb160, _, none⟩) NB158_160.out _).trans (hHeld.2.2.1)))))))))), ((cell_far (p := ⟨gb160, _, none⟩) NB158_160.out _).trans (((cell_far (p := ⟨gb160, _, none⟩) NB158_160.out _).trans (((cell_far (p := ⟨gb160, _, none⟩) NB158_160.out _).trans (((cell_far (p := ⟨gb160, _, none⟩) NB158_160.out _).trans (((cell_far (p := ⟨gb160, _, none⟩) NB158_160.out _).trans (hHeld.2.2.2.1)))))))))), ((cell_far (p := ⟨gb160, _, none⟩) NB158_160.out _).trans (((cell_far (p := ⟨gb160, _, none⟩) NB158_160.out _).trans (((cell_far (p := ⟨gb160, _, none⟩) NB158_160.out _).trans (((cell_far (p := ⟨gb160, _, none⟩) NB158_160.out _).trans (((cell_far (p := ⟨gb160, _, none⟩) NB158_160.out _).trans (hHeld.2.2.2.2.1)))))))))), ((cell_far (p := ⟨gb160, _, none⟩) NB159_160.out _).trans (((cell_far (p := ⟨gb160, _, none⟩) NB159_160.out _).trans (((cell_far (p := ⟨gb160, _, none⟩) NB159_160.out _).trans (((cell_far (p := ⟨gb160, _, none⟩) NB159_160.out _).trans (((cell_far (p := ⟨gb160, _, none⟩) NB159_160.out _).trans (hHeld.2.2.2.2.2.1)))))))))), ((cell_far (p := ⟨gb160, _, none⟩) NB159_160.out _).trans (((cell_far (p := ⟨gb160, _, none⟩) NB159_160.out _).trans (((cell_far (p := ⟨gb160, _, none⟩) NB159_160.out _).trans (((cell_far (p := ⟨gb160, _, none⟩) NB159_160.out _).trans (((cell_far (p := ⟨gb160, _, none⟩) NB159_160.out _).trans (hHeld.2.2.2.2.2.2.1)))))))))), ((cell_far (p := ⟨gb160, _, none⟩) NB159_160.out _).trans (((cell_far (p := ⟨gb160, _, none⟩) NB159_160.out _).trans (((cell_far (p := ⟨gb160, _, none⟩) NB159_160.out _).trans (((cell_far (p := ⟨gb160, _, none⟩) NB159_160.out _).trans (((cell_far (p := ⟨gb160, _, none⟩) NB159_160.out _).trans (hHeld.2.2.2.2.2.2.2.1)))))))))), ((cell_far (p := ⟨gb160, _, none⟩) NB159_160.out _).trans (((cell_far (p := ⟨gb160, _, none⟩) NB159_160.out _).trans (((cell_far (p := ⟨gb160, _, none⟩) NB159_160.out _).trans (((cell_far (p := ⟨gb160, _, none⟩) NB159_160.out _).trans (((cell_far (p := ⟨gb160, _, none⟩) NB159_160.out _).trans (hHeld.2.2.2.2.2.2.2.2.1)))))))))), ((cell_far (p := ⟨gb160, _, none⟩) NB159_160.out _).trans (((cell_far (p := ⟨gb160, _, none⟩) NB159_160.out _).trans (((cell_far (p := ⟨gb160, _, none⟩) NB159_160.out _).trans (((cell_far (p := ⟨gb160, _, none⟩) NB159_160.out _).trans (((cell_far (p := ⟨gb160, _, none⟩) NB159_160.out _).trans (hHeld.2.2.2.2.2.2.2.2.2))))))))))⟩ (fun hHeld => ?_)
    clear hK K
    refine done_ (done_of HT_.out (by kernel_rfl)) ?_
    try go_wp2
    refine bodyPost_ret (results_cell_row rfl _ _ gb160 31 #[.bool a0_0, .int .u64 t161, .int .u64 t162, .int .u64 t163, .int .u64 t164] (0, 0) _ rfl (by (with_reducible repeat (first | refine blk_drewN ?_ _ | refine blk_drew ?_ | refine blk_alloc ?_ _)); refine blk_put (cs := #[.bool a0_0, .int .u64 t161, .int .u64 t162, .int .u64 t163, .int .u64 0]) ?_ 4 _ rfl; (with_reducible repeat (first | refine blk_drewN ?_ _ | refine blk_drew ?_ | refine blk_alloc ?_ _)); refine blk_put (cs := #[.bool a0_0, .int .u64 t161, .int .u64 t162, .int .u64 0, .int .u64 0]) ?_ 3 _ rfl; (with_reducible repeat (first | refine blk_drewN ?_ _ | refine blk_drew ?_ | refine blk_alloc ?_ _)); refine blk_put (cs := #[.bool a0_0, .int .u64 t161, .int .u64 0, .int .u64 0, .int .u64 0]) ?_ 2 _ rfl; (with_reducible repeat (first | refine blk_drewN ?_ _ | refine blk_drew ?_ | refine blk_alloc ?_ _)); refine blk_put (cs := #[.bool a0_0, .int .u64 0, .int .u64 0, .int .u64 0, .int .u64 0]) ?_ 1 _ rfl; (with_reducible repeat (first | refine blk_drewN ?_ _ | refine blk_drew ?_ | refine blk_alloc ?_ _)); refine blk_put (cs := #[.bool false, .int .u64 0, .int .u64 0, .int .u64 0, .int .u64 0]) ?_ 0 _ rfl; (with_reducible repeat (first | refine blk_drewN ?_ _ | refine blk_drew ?_ | refine blk_alloc ?_ _)); exact BK160.out) Try.underlying31 rfl (by kernel_rfl)) rfl ?_
    exact ⟨by first | rfl | (simp [errW_none, errW_some] <;> rfl) | (simp [*, errW_none, errW_some] <;> rfl), by repeat (first | (with_reducible first | exact HB.out | apply below_alloc | apply pw_below_drewN | apply below_drew1 | refine below_set ?_ GE158.out | refine below_set ?_ GE159.out | refine below_set ?_ GE160.out) | exact HB.out)⟩
  · rw [if_neg c3] at H
    have c3b0 : (a0_0 == a1_0) = false := by simpa using c3
    (try (have c3b1 : decide (a0_0 = a1_0) = false := by simpa using c3))
    (try (have c3b2 : (a0_0 == a1_0) = false := by simpa using c3))
    (try (have c3b3 : ¬ (a0_0 = a1_0) := by simpa using c3))
    clear c3
    replace H := Option.bind_eq_some_iff.mp H
    obtain ⟨t165, A200, H⟩ := H
    replace H : (if t165 = true then ((carouselref1_minus.f a1_1 a1_2 a1_3 a1_4 a0_1 a0_2 a0_3 a0_4).bind fun bt166 => (some (a1_0, bt166.1, bt166.2.1, bt166.2.2.1, bt166.2.2.2))) else ((carouselref1_minus.f a0_1 a0_2 a0_3 a0_4 a1_1 a1_2 a1_3 a1_4).bind fun bt170 => (some (a0_0, bt170.1, bt170.2.1, bt170.2.2.1, bt170.2.2.2)))) = some (r1, r2, r3, r4, r5) := H
    have A20 := Aside0.mk A200
    clear A200
    by_cases c21 : t165 = true
    · subst c21
      have H1 : ((carouselref1_minus.f a1_1 a1_2 a1_3 a1_4 a0_1 a0_2 a0_3 a0_4).bind fun bt166 => (some (a1_0, bt166.1, bt166.2.1, bt166.2.2.1, bt166.2.2.2))) = some (r1, r2, r3, r4, r5) := by rw [if_pos rfl] at H; exact H
      clear H
      have H := H1
      clear H1
      replace H := Option.bind_eq_some_iff.mp H
      obtain ⟨⟨t166, t167, t168, t169⟩, A220, H⟩ := H
      replace H : (some (a1_0, t166, t167, t168, t169)) = some (r1, r2, r3, r4, r5) := H
      have A22 := Aside0.mk A220
      clear A220
      simp only [Option.some.injEq, Prod.mk.injEq] at H
      obtain ⟨rfl, rfl, rfl, rfl, rfl⟩ := H
      go_enter Try.func20, Try.ntmps20
      try go_wp2_with (first | ((with_reducible refine gate_dst (N := 2) rfl ?_); refine box_event ?hg (N := 2) ?hd (cs := #[.bool a0_0, .int .u64 a0_1, .int .u64 a0_2, .int .u64 a0_3, .int .u64 a0_4]) (t := 31) ?hr ?_; (case hd => rfl); (case hg => rfl); (case hr => first | (go_simp; done) | (go_simp; rfl)); intro gb158 hg w23 hbox hb; have n0_ := Aside0.mk (below_step (by repeat (first | (with_reducible first | exact HB.out | apply below_alloc | apply pw_below_drewN | apply below_drew1) | exact HB.out)) hb); have n1_ := Aside0.mk (hbox); have n2_ := Aside0.mk ((by rw [hg]; exact (below_size (by repeat (first | (with_reducible first | exact HB.out | apply below_alloc | apply pw_below_drewN | apply below_drew1) | exact HB.out))) : w.heap.size ≤ gb158)); have n3_ := Aside0.mk ((by rw [hg]; exact (below_size (by repeat (first | (with_reducible first | exact HB.out | apply below_alloc | apply pw_below_drewN | apply below_drew1) | exact HB.out))) : w.heap.size ≤ gb158)); clear HB; have HB := n0_; have BK158 := n1_; have GW158 := n2_; have GE158 := n3_; clear n0_ n1_ n2_ n3_; clear hb hbox hg) | ((with_reducible refine gate_dst (N := 3) rfl ?_); refine box_event ?hg (N := 3) ?hd (cs := #[.bool a1_0, .int .u64 a1_1, .int .u64 a1_2, .int .u64 a1_3, .int .u64 a1_4]) (t := 31) ?hr ?_; (case hd => rfl); (case hg => rfl); (case hr => first | (go_simp; done) | (go_simp; rfl)); intro gb159 hg w24 hbox hb; have n0_ := Aside0.mk (blk_below (g := gb158) (o := .cells #[.bool a0_0, .int .u64 a0_1, .int .u64 a0_2, .int .u64 a0_3, .int .u64 a0_4] 31 (0, 0)) (by (with_reducible repeat (first | refine blk_drewN ?_ _ | refine blk_drew ?_ | refine blk_alloc ?_ _)); exact BK158.out) hb); have n1_ := Aside0.mk (below_step (by repeat (first | (with_reducible first | exact HB.out | apply below_alloc | apply pw_below_drewN | apply below_drew1 | refine below_set ?_ GE158.out) | exact HB.out)) hb); have n2_ := Aside0.mk (hbox); have n3_ := Aside0.mk ((by rw [hg]; exact (below_size (by repeat (first | (with_reducible first | exact HB.out | apply below_alloc | apply pw_below_drewN | apply below_drew1 | refine below_set ?_ GE158.out) | exact HB.out))) : w.heap.size ≤ gb159)); have n4_ := Aside0.mk ((by rw [hg]; exact (below_size (by repeat (first | (with_reducible first | exact HB.out | apply below_alloc | apply pw_below_drewN | apply below_drew1 | refine below_set ?_ GE158.out) | exact HB.out))) : w.heap.size ≤ gb159)); have n5_ := Aside0.mk ((by rw [hg]; exact Nat.ne_of_lt (blk_lt (g := gb158) (o := .cells #[.bool a0_0, .int .u64 a0_1, .int .u64 a0_2, .int .u64 a0_3, .int .u64 a0_4] 31 (0, 0)) (by (with_reducible repeat (first | refine blk_drewN ?_ _ | refine blk_drew ?_ | refine blk_alloc ?_ _)); exact BK158.out)) : gb158 ≠ gb159)); have n6_ := Aside0.mk ((by rw [hg]; exact Nat.ne_of_gt (blk_lt (g := gb158) (o := .cells #[.bool a0_0, .int .u64 a0_1, .int .u64 a0_2, .int .u64 a0_3, .int .u64 a0_4] 31 (0, 0)) (by (with_reducible repeat (first | refine blk_drewN ?_ _ | refine blk_drew ?_ | refine blk_alloc ?_ _)); exact BK158.out)) : gb159 ≠ gb158)); clear BK158; clear HB; have BK158 := n0_; have HB := n1_; have BK159 := n2_; have GW159 := n3_; have GE159 := n4_; have NB158_159 := n5_; have NB159_158 := n6_; clear n0_ n1_ n2_ n3_ n4_ n5_ n6_; clear hb hbox hg) | ((with_reducible refine gate_dst (N := 4) rfl ?_); refine box_event ?hg (N := 4) ?hd (cs := #[.bool false, .int .u64 0, .int .u64 0, .int .u64 0, .int .u64 0]) (t := 31) ?hr ?_; (case hd => rfl); (case hg => rfl); (case hr => first | (go_simp; done) | (go_simp; rfl)); intro gb160 hg w25 hbox hb; have n0_ := Aside0.mk (blk_below (g := gb158) (o := .cells #[.bool a0_0, .int .u64 a0_1, .int .u64 a0_2, .int .u64 a0_3, .int .u64 a0_4] 31 (0, 0)) (by (with_reducible repeat (first | refine blk_drewN ?_ _ | refine blk_drew ?_ | refine blk_alloc ?_ _)); exact BK158.out) hb); have n1_ := Aside0.mk (blk_below (g := gb159) (o := .cells #[.bool a1_0, .int .u64 a1_1, .int .u64 a1_2, .int .u64 a1_3, .int .u64 a1_4] 31 (0, 0)) (by (with_reducible repeat (first | refine blk_drewN ?_ _ | refine blk_drew ?_ | refine blk_alloc ?_ _)); exact BK159.out) hb); have n2_ := Aside0.mk (below_step (by repeat (first | (with_reducible first | exact HB.out | apply below_alloc | apply pw_below_drewN | apply below_drew1 | refine below_set ?_ GE158.out | refine below_set ?_ GE159.out) | exact HB.out)) hb); have n3_ := Aside0.mk (hbox); have n4_ := Aside0.mk ((by rw [hg]; exact (below_size (by repeat (first | (with_reducible first | exact HB.out | apply below_alloc | apply pw_below_drewN | apply below_drew1 | refine below_set ?_ GE158.out | refine below_set ?_ GE159.out) | exact HB.out))) : w.heap.size ≤ gb160)); have n5_ := Aside0.mk ((by rw [hg]; exact (below_size (by repeat (first | (with_reducible first | exact HB.out | apply below_alloc | apply pw_below_drewN | apply below_drew1 | refine below_set ?_ GE158.out | refine below_set ?_ GE159.out) | exact HB.out))) : w.heap.size ≤ gb160)); have n6_ := Aside0.mk ((by rw [hg]; exact Nat.ne_of_lt (blk_lt (g := gb158) (o := .cells #[.bool a0_0, .int .u64 a0_1, .int .u64 a0_2, .int .u64 a0_3, .int .u64 a0_4] 31 (0, 0)) (by (with_reducible repeat (first | refine blk_drewN ?_ _ | refine blk_drew ?_ | refine blk_alloc ?_ _)); exact BK158.out)) : gb158 ≠ gb160)); have n7_ := Aside0.mk ((by rw [hg]; exact Nat.ne_of_gt (blk_lt (g := gb158) (o := .cells #[.bool a0_0, .int .u64 a0_1, .int .u64 a0_2, .int .u64 a0_3, .int .u64 a0_4] 31 (0, 0)) (by (with_reducible repeat (first | refine blk_drewN ?_ _ | refine blk_drew ?_ | refine blk_alloc ?_ _)); exact BK158.out)) : gb160 ≠ gb158)); have n8_ := Aside0.mk ((by rw [hg]; exact Nat.ne_of_lt (blk_lt (g := gb159) (o := .cells #[.bool a1_0, .int .u64 a1_1, .int .u64 a1_2, .int .u64 a1_3, .int .u64 a1_4] 31 (0, 0)) (by (with_reducible repeat (first | refine blk_drewN ?_ _ | refine blk_drew ?_ | refine blk_alloc ?_ _)); exact BK159.out)) : gb159 ≠ gb160)); have n9_ := Aside0.mk ((by rw [hg]; exact Nat.ne_of_gt (blk_lt (g := gb159) (o := .cells #[.bool a1_0, .int .u64 a1_1, .int .u64 a1_2, .int .u64 a1_3, .int .u64 a1_4] 31 (0, 0)) (by (with_reducible repeat (first | refine blk_drewN ?_ _ | refine blk_drew ?_ | refine blk_alloc ?_ _)); exact BK159.out)) : gb160 ≠ gb159)); clear BK158; clear BK159; clear HB; have BK158 := n0_; have BK159 := n1_; have HB := n2_; have BK160 := n3_; have GW160 := n4_; have GE160 := n5_; have NB158_160 := n6_; have NB160_158 := n7_; have NB159_160 := n8_; have NB160_159 := n9_; clear n0_ n1_ n2_ n3_ n4_ n5_ n6_ n7_ n8_ n9_; clear hb hbox hg; have hnb26 := NB158_159.out; have hnc26 := NB159_158.out; have hnb27 := NB158_160.out; have hnc27 := NB160_158.out; have hcz28_0 : w25.cell? ⟨gb158, 0, none⟩ = some (.bool a0_0) := (blk_cell BK158.out 0).trans rfl; have hcz28_1 : w25.cell? ⟨gb158, 1, none⟩ = some (.int .u64 a0_1) := (blk_cell BK158.out 1).trans rfl; have hcz28_2 : w25.cell? ⟨gb158, 2, none⟩ = some (.int .u64 a0_2) := (blk_cell BK158.out 2).trans rfl; have hcz28_3 : w25.cell? ⟨gb158, 3, none⟩ = some (.int .u64 a0_3) := (blk_cell BK158.out 3).trans rfl; have hcz28_4 : w25.cell? ⟨gb158, 4, none⟩ = some (.int .u64 a0_4) := (blk_cell BK158.out 4).trans rfl; have hfz28_0 := blk_frozen BK158.out 0; have hfz28_1 := blk_frozen BK158.out 1; have hfz28_2 := blk_frozen BK158.out 2; have hfz28_3 := blk_frozen BK158.out 3; have hfz28_4 := blk_frozen BK158.out 4; have hnb29 := NB159_160.out; have hnc29 := NB160_159.out; have hcz30_0 : w25.cell? ⟨gb159, 0, none⟩ = some (.bool a1_0) := (blk_cell BK159.out 0).trans rfl; have hcz30_1 : w25.cell? ⟨gb159, 1, none⟩ = some (.int .u64 a1_1) := (blk_cell BK159.out 1).trans rfl; have hcz30_2 : w25.cell? ⟨gb159, 2, none⟩ = some (.int .u64 a1_2) := (blk_cell BK159.out 2).trans rfl; have hcz30_3 : w25.cell? ⟨gb159, 3, none⟩ = some (.int .u64 a1_3) := (blk_cell BK159.out 3).trans rfl; have hcz30_4 : w25.cell? ⟨gb159, 4, none⟩ = some (.int .u64 a1_4) := (blk_cell BK159.out 4).trans rfl; have hfz30_0 := blk_frozen BK159.out 0; have hfz30_1 := blk_frozen BK159.out 1; have hfz30_2 := blk_frozen BK159.out 2; have hfz30_3 := blk_frozen BK159.out 3; have hfz30_4 := blk_frozen BK159.out 4) | ((with_reducible refine gate_callee (f := 43) rfl ?_); refine goesL_ (some 22) rfl rfl Try.func43 (by kernel_rfl) rfl #[.agg #[.int .u64 a0_1, .int .u64 a0_2, .int .u64 a0_3, .int .u64 a0_4], .agg #[.int .u64 a1_1, .int .u64 a1_2, .int .u64 a1_3, .int .u64 a1_4]] rfl (by (try simp only [List.map_toArray, List.map_cons, List.map_nil]); first | done | rfl | (simp only [List.length_drop, List.length_take]; rfl)) ?_; (with_reducible refine (carouselref1_less.calls a0_1 a0_2 a0_3 a0_4 a1_1 a1_2 a1_3 a1_4 true _ A20.out).mono ?_); rintro e w31 ⟨rfl, hb⟩; refine ⟨_, rfl, ?_⟩; have n0_ := Aside0.mk (blk_below (g := gb158) (o := .cells #[.bool a0_0, .int .u64 a0_1, .int .u64 a0_2, .int .u64 a0_3, .int .u64 a0_4] 31 (0, 0)) (by (with_reducible repeat (first | refine blk_drewN ?_ _ | refine blk_drew ?_ | refine blk_alloc ?_ _)); exact BK158.out) hb); have n1_ := Aside0.mk (blk_below (g := gb159) (o := .cells #[.bool a1_0, .int .u64 a1_1, .int .u64 a1_2, .int .u64 a1_3, .int .u64 a1_4] 31 (0, 0)) (by (with_reducible repeat (first | refine blk_drewN ?_ _ | refine blk_drew ?_ | refine blk_alloc ?_ _)); exact BK159.out) hb); have n2_ := Aside0.mk (blk_below (g := gb160) (o := .cells #[.bool false, .int .u64 0, .int .u64 0, .int .u64 0, .int .u64 0] 31 (0, 0)) (by (with_reducible repeat (first | refine blk_drewN ?_ _ | refine blk_drew ?_ | refine blk_alloc ?_ _)); exact BK160.out) hb); have n3_ := Aside0.mk (below_step (by repeat (first | (with_reducible first | exact HB.out | apply below_alloc | apply pw_below_drewN | apply below_drew1 | refine below_set ?_ GE158.out | refine below_set ?_ GE159.out | refine below_set ?_ GE160.out) | exact HB.out)) hb); clear BK158; clear BK159; clear BK160; clear HB; have BK158 := n0_; have BK159 := n1_; have BK160 := n2_; have HB := n3_; clear n0_ n1_ n2_ n3_; (try clear hb); (try clear hb2); (try clear hk); (try clear hi)))
      have n0_ := Aside0.mk (blk_drew BK158.out)
      have n1_ := Aside0.mk (blk_drew BK159.out)
      have n2_ := Aside0.mk (blk_drew BK160.out)
      have n3_ := Aside0.mk (below_drew1 HB.out)
      clear BK158
      clear BK159
      clear BK160
      clear HB
      have BK158 := n0_
      have BK159 := n1_
      have BK160 := n2_
      have HB := n3_
      clear n0_ n1_ n2_ n3_
      refine start_ (n := 9) (S := fun w' => w'.cell? ⟨gb159, 0, none⟩ = some (.bool a1_0) ∧ w'.cell? ⟨gb159, 1, none⟩ = some (.int .u64 a1_1) ∧ w'.cell? ⟨gb159, 2, none⟩ = some (.int .u64 a1_2) ∧ w'.cell? ⟨gb159, 3, none⟩ = some (.int .u64 a1_3) ∧ w'.cell? ⟨gb159, 4, none⟩ = some (.int .u64 a1_4) ∧ w'.cell? ⟨gb158, 0, none⟩ = some (.bool a0_0) ∧ w'.cell? ⟨gb158, 1, none⟩ = some (.int .u64 a0_1) ∧ w'.cell? ⟨gb158, 2, none⟩ = some (.int .u64 a0_2) ∧ w'.cell? ⟨gb158, 3, none⟩ = some (.int .u64 a0_3) ∧ w'.cell? ⟨gb158, 4, none⟩ = some (.int .u64 a0_4)) (ds := []) #[false, false, false, false, false, false, false, false, false] (by kernel_rfl) rfl rfl ⟨(blk_cell BK159.out 0).trans rfl, (blk_cell BK159.out 1).trans rfl, (blk_cell BK159.out 2).trans rfl, (blk_cell BK159.out 3).trans rfl, (blk_cell BK159.out 4).trans rfl, (blk_cell BK158.out 0).trans rfl, (blk_cell BK158.out 1).trans rfl, (blk_cell BK158.out 2).trans rfl, (blk_cell BK158.out 3).trans rfl, (blk_cell BK158.out 4).trans rfl⟩ (fun hHeld => ?_); refine with_tabW carouselref1_Plus.tab4 carouselref1_Plus.bits4 (fun HT_ HW_ => ?_)
      generalize w31.drew = w32 at BK158 BK159 BK160 HB hHeld ⊢
      refine pure_ (i := 0) (N := some 23) (v := ?_) (a' := ?_) #[true, false, false, false, false, false, false, false, false] rfl rfl (any_of HT_.out (by kernel_rfl)) (fun _ _ _ h => h) (Or.inl ⟨by rfl, ?_⟩) ?_ ?_
      rotate_left
      · intro w'
        go_simp
        with_reducible rfl
      rotate_left
      · simp only [Act.put, List.setIfInBounds_toArray, List.set_cons_zero, List.set_cons_succ, i64_w, i32_w]
        rfl
      refine pure_ (i := 2) (N := some 25) (v := ?_) (a' := ?_) #[true, false, true, false, false, false, false, false, false] rfl rfl (any_of HT_.out (by kernel_rfl)) (fun _ _ _ h => h) (Or.inl ⟨by rfl, ?_⟩) ?_ ?_
      rotate_left
      · intro w'
        go_simp
        with_reducible rfl
      rotate_left
      · simp only [Act.put, List.setIfInBounds_toArray, List.set_cons_zero, List.set_cons_succ, i64_w, i32_w]
        rfl
      refine pure_ (i := 4) (N := some 27) (v := ?_) (a' := ?_) #[true, false, true, false, true, false, false, false, false] rfl rfl (any_of HT_.out (by kernel_rfl)) (fun _ _ _ h => h) (Or.inl ⟨by rfl, ?_⟩) ?_ ?_
      rotate_left
      · intro w'
        go_simp
        with_reducible rfl
      rotate_left
      · simp only [Act.put, List.setIfInBounds_toArray, List.set_cons_zero, List.set_cons_succ, i64_w, i32_w]
        rfl
      refine take_ (i := 1) (N := some 24) (v := ?_) (a' := ?_) #[true, true, true, false, true, false, false, false, false] rfl rfl (take_ofW HT_.out HW_.out (by kernel_rfl)) (fun _ _ _ h => h) (Or.inl ⟨by rfl, ?_⟩) hHeld ?_ ?_
      rotate_left
      · rintro w' ⟨s0, s1, s2, s3, s4, s5, s6, s7, s8, s9⟩
        go_simp
        with_reducible rfl
      rotate_left
      · simp only [Act.put, List.setIfInBounds_toArray, List.set_cons_zero, List.set_cons_succ, i64_w, i32_w]
        rfl
      refine take_ (i := 3) (N := some 26) (v := ?_) (a' := ?_) #[true, true, true, true, true, false, false, false, false] rfl rfl (take_ofW HT_.out HW_.out (by kernel_rfl)) (fun _ _ _ h => h) (Or.inl ⟨by rfl, ?_⟩) hHeld ?_ ?_
      rotate_left
      · rintro w' ⟨s0, s1, s2, s3, s4, s5, s6, s7, s8, s9⟩
        go_simp
        with_reducible rfl
      rotate_left
      · simp only [Act.put, List.setIfInBounds_toArray, List.set_cons_zero, List.set_cons_succ, i64_w, i32_w]
        rfl
      refine take_ (i := 5) (N := some 28) (v := ?_) (a' := ?_) #[true, true, true, true, true, true, false, false, false] rfl rfl (take_ofW HT_.out HW_.out (by kernel_rfl)) (fun _ _ _ h => h) (Or.inl ⟨by rfl, ?_⟩) hHeld ?_ ?_
      rotate_left
      · rintro w' ⟨s0, s1, s2, s3, s4, s5, s6, s7, s8, s9⟩
        go_simp
        with_reducible rfl
      rotate_left
      · simp only [Act.put, List.setIfInBounds_toArray, List.set_cons_zero, List.set_cons_succ, i64_w, i32_w]
        rfl
      refine one_ (i := 6) (N := some 29) #[true, true, true, true, true, true, true, false, false] rfl rfl (one_of HT_.out (by kernel_rfl)) (by decide) (fun K hK => ?_)
      refine goes_ Try.func44 (by kernel_rfl) rfl #[.agg #[.int .u64 a1_1, .int .u64 a1_2, .int .u64 a1_3, .int .u64 a1_4], .agg #[.int .u64 a0_1, .int .u64 a0_2, .int .u64 a0_3, .int .u64 a0_4]] (by rfl) rfl rfl (by (try simp only [List.map_toArray, List.map_cons, List.map_nil]); first | done | rfl | (simp only [List.length_drop, List.length_take]; rfl)) ?_
      with_reducible refine (carouselref1_minus.calls a1_1 a1_2 a1_3 a1_4 a0_1 a0_2 a0_3 a0_4 t166 t167 t168 t169 _ A22.out).mono ?_
      rintro e w33 ⟨rfl, hb⟩
      refine ⟨_, rfl, ?_⟩
      have n0_ := Aside0.mk (blk_below (g := gb158) (o := .cells #[.bool a0_0, .int .u64 a0_1, .int .u64 a0_2, .int .u64 a0_3, .int .u64 a0_4] 31 (0, 0)) (by (with_reducible repeat (first | refine blk_drewN ?_ _ | refine blk_drew ?_ | refine blk_alloc ?_ _)); exact BK158.out) hb)
      have n1_ := Aside0.mk (blk_below (g := gb159) (o := .cells #[.bool a1_0, .int .u64 a1_1, .int .u64 a1_2, .int .u64 a1_3, .int .u64 a1_4] 31 (0, 0)) (by (with_reducible repeat (first | refine blk_drewN ?_ _ | refine blk_drew ?_ | refine blk_alloc ?_ _)); exact BK159.out) hb)
      have n2_ := Aside0.mk (blk_below (g := gb160) (o := .cells #[.bool false, .int .u64 0, .int .u64 0, .int .u64 0, .int .u64 0] 31 (0, 0)) (by (with_reducible repeat (first | refine blk_drewN ?_ _ | refine blk_drew ?_ | refine blk_alloc ?_ _)); exact BK160.out) hb)
      have n3_ := Aside0.mk (below_step (by repeat (first | (with_reducible first | exact HB.out | apply below_alloc | apply pw_below_drewN | apply below_drew1 | refine below_set ?_ GE158.out | refine below_set ?_ GE159.out | refine below_set ?_ GE160.out) | exact HB.out)) hb)
      clear BK158
      clear BK159
      clear BK160
      clear HB
      have BK158 := n0_
      have BK159 := n1_
      have BK160 := n2_
      have HB := n3_
      clear n0_ n1_ n2_ n3_
      (try clear hb)
      (try clear hb2)
      (try clear hk)
      (try clear hi)
      refine hK.out _ _ ⟨(blk_cell BK159.out 0).trans rfl, (blk_cell BK159.out 1).trans rfl, (blk_cell BK159.out 2).trans rfl, (blk_cell BK159.out 3).trans rfl, (blk_cell BK159.out 4).trans rfl, (blk_cell BK158.out 0).trans rfl, (blk_cell BK158.out 1).trans rfl, (blk_cell BK158.out 2).trans rfl, (blk_cell BK158.out 3).trans rfl, (blk_cell BK158.out 4).trans rfl⟩ (fun hHeld => ?_)
      clear hK K
      refine norm_ (a' := ?_) ?_ ?_
      rotate_left
      · show Act.put _ (some 29) _ = _
        simp only [Act.put, List.setIfInBounds_toArray, List.set_cons_zero, List.set_cons_succ, i64_w, i32_w]
        rfl
      refine pure_ (i := 7) (N := some 30) (v := ?_) (a' := ?_) #[true, true, true, true, true, true, true, true, false] rfl rfl (any_of HT_.out (by kernel_rfl)) (fun _ _ _ h => h) (Or.inl ⟨by rfl, ?_⟩) ?_ ?_
      rotate_left
      · intro w'
        go_simp
        with_reducible rfl
      rotate_left
      · simp only [Act.put, List.setIfInBounds_toArray, List.set_cons_zero, List.set_cons_succ, i64_w, i32_w]
        rfl
      refine one_ (i := 8) (N := none) #[true, true, true, true, true, true, true, true, true] rfl rfl (one_of HT_.out (by kernel_rfl)) (by decide) (fun K hK => ?_)
      have hs34 : w33.cell? ⟨gb160, 0, none⟩ = some (.bool false) := (blk_cell BK160.out 0).trans rfl
      have hfs34 := blk_frozen BK160.out 0
      have hns34_0 := NB158_160.out
      have hns34_1 := NB159_160.out
      have hms34_0 := NB160_158.out
      have hms34_1 := NB160_159.out
      have hs35 : w33.cell? ⟨gb160, 1, none⟩ = some (.int .u64 0) := (blk_cell BK160.out 1).trans rfl
      have hfs35 := blk_frozen BK160.out 1
      have hns35_0 := NB158_160.out
      have hns35_1 := NB159_160.out
      have hms35_0 := NB160_158.out
      have hms35_1 := NB160_159.out
      have hs36 : w33.cell? ⟨gb160, 2, none⟩ = some (.int .u64 0) := (blk_cell BK160.out 2).trans rfl
      have hfs36 := blk_frozen BK160.out 2
      have hns36_0 := NB158_160.out
      have hns36_1 := NB159_160.out
      have hms36_0 := NB160_158.out
      have hms36_1 := NB160_159.out
      have hs37 : w33.cell? ⟨gb160, 3, none⟩ = some (.int .u64 0) := (blk_cell BK160.out 3).trans rfl
      have hfs37 := blk_frozen BK160.out 3
      have hns37_0 := NB158_160.out
      have hns37_1 := NB159_160.out
      have hms37_0 := NB160_158.out
      have hms37_1 := NB160_159.out
      have hs38 : w33.cell? ⟨gb160, 4, none⟩ = some (.int .u64 0) := (blk_cell BK160.out 4).trans rfl
      have hfs38 := blk_frozen BK160.out 4
      have hns38_0 := NB158_160.out
      have hns38_1 := NB159_160.out
      have hms38_0 := NB160_158.out
      have hms38_1 := NB160_159.out
      refine skip_ (w1 := ?_) (by rfl) rfl ?_ ?_
      rotate_left
      · go_simp
        rfl
      refine hK.out _ _ ⟨((cell_far (p := ⟨gb160, _, none⟩) NB159_160.out _).trans (((cell_far (p := ⟨gb160, _, none⟩) NB159_160.out _).trans (((cell_far (p := ⟨gb160, _, none⟩) NB159_160.out _).trans (((cell_far (p := ⟨gb160, _, none⟩) NB159_160.out _).trans (((cell_far (p := ⟨gb160, _, none⟩) NB159_160.out _).trans (hHeld.1)))))))))), ((cell_far (p := ⟨gb160, _, none⟩) NB159_160.out _).trans (((cell_far (p := ⟨gb160, _, none⟩) NB159_160.out _).trans (((cell_far (p := ⟨gb160, _, none⟩) NB159_160.out _).trans (((cell_far (p := ⟨gb160, _, none⟩) NB159_160.out _).trans (((cell_far (p := ⟨gb160, _, none⟩) NB159_160.out _).trans (hHeld.2.1)))))))))), ((cell_far (p := ⟨gb160, _, none⟩) NB159_160.out _).trans (((cell_far (p := ⟨gb160, _, none⟩) NB159_160.out _).trans (((cell_far (p := ⟨gb160, _, none⟩) NB159_160.out _).trans (((cell_far (p := ⟨gb160, _, none⟩) NB159_160.out _).trans (((cell_far (p := ⟨gb160, _, none⟩) NB159_160.out _).trans (hHeld.2.2.1)))))))))), ((cell_far (p := ⟨gb160, _, none⟩) NB159_160.out _).trans (((cell_far (p := ⟨gb160, _, none⟩) NB159_160.out _).trans (((cell_far (p := ⟨gb160, _, none⟩) NB159_160.out _).trans (((cell_far (p := ⟨gb160, _, none⟩) NB159_160.out _).trans (((cell_far (p := ⟨gb160, _, none⟩) NB159_160.out _).trans (hHeld.2.2.2.1)))))))))), ((cell_far (p := ⟨gb160, _, none⟩) NB159_160.out _).trans (((cell_far (p := ⟨gb160, _, none⟩) NB159_160.out _).trans (((cell_far (p := ⟨gb160, _, none⟩) NB159_160.out _).trans (((cell_far (p := ⟨gb160, _, none⟩) NB159_160.out _).trans (((cell_far (p := ⟨gb160, _, none⟩) NB159_160.out _).trans (hHeld.2.2.2.2.1)))))))))), ((cell_far (p := ⟨gb160, _, none⟩) NB158_160.out _).trans (((cell_far (p := ⟨gb160, _, none⟩) NB158_160.out _).trans (((cell_far (p := ⟨gb160, _, none⟩) NB158_160.out _).trans (((cell_far (p := ⟨gb160, _, none⟩) NB158_160.out _).trans (((cell_far (p := ⟨gb160, _, none⟩) NB158_160.out _).trans (hHeld.2.2.2.2.2.1)))))))))), ((cell_far (p := ⟨gb160, _, none⟩) NB158_160.out _).trans (((cell_far (p := ⟨gb160, _, none⟩) NB158_160.out _).trans (((cell_far (p := ⟨gb160, _, none⟩) NB158_160.out _).trans (((cell_far (p := ⟨gb160, _, none⟩) NB158_160.out _).trans (((cell_far (p := ⟨gb160, _, none⟩) NB158_160.out _).trans (hHeld.2.2.2.2.2.2.1)))))))))), ((cell_far (p := ⟨gb160, _, none⟩) NB158_160.out _).trans (((cell_far (p := ⟨gb160, _, none⟩) NB158_160.out _).trans (((cell_far (p := ⟨gb160, _, none⟩) NB158_160.out _).trans (((cell_far (p := ⟨gb160, _, none⟩) NB158_160.out _).trans (((cell_far (p := ⟨gb160, _, none⟩) NB158_160.out _).trans (hHeld.2.2.2.2.2.2.2.1)))))))))), ((cell_far (p := ⟨gb160, _, none⟩) NB158_160.out _).trans (((cell_far (p := ⟨gb160, _, none⟩) NB158_160.out _).trans (((cell_far (p := ⟨gb160, _, none⟩) NB158_160.out _).trans (((cell_far (p := ⟨gb160, _, none⟩) NB158_160.out _).trans (((cell_far (p := ⟨gb160, _, none⟩) NB158_160.out _).trans (hHeld.2.2.2.2.2.2.2.2.1)))))))))), ((cell_far (p := ⟨gb160, _, none⟩) NB158_160.out _).trans (((cell_far (p := ⟨gb160, _, none⟩) NB158_160.out _).trans (((cell_far (p := ⟨gb160, _, none⟩) NB158_160.out _).trans (((cell_far (p := ⟨gb160, _, none⟩) NB158_160.out _).trans (((cell_far (p := ⟨gb160, _, none⟩) NB158_160.out _).trans (hHeld.2.2.2.2.2.2.2.2.2))))))))))⟩ (fun hHeld => ?_)
      clear hK K
      refine done_ (done_of HT_.out (by kernel_rfl)) ?_
      try go_wp2
      refine bodyPost_ret (results_cell_row rfl _ _ gb160 31 #[.bool a1_0, .int .u64 t166, .int .u64 t167, .int .u64 t168, .int .u64 t169] (0, 0) _ rfl (by (with_reducible repeat (first | refine blk_drewN ?_ _ | refine blk_drew ?_ | refine blk_alloc ?_ _)); refine blk_put (cs := #[.bool a1_0, .int .u64 t166, .int .u64 t167, .int .u64 t168, .int .u64 0]) ?_ 4 _ rfl; (with_reducible repeat (first | refine blk_drewN ?_ _ | refine blk_drew ?_ | refine blk_alloc ?_ _)); refine blk_put (cs := #[.bool a1_0, .int .u64 t166, .int .u64 t167, .int .u64 0, .int .u64 0]) ?_ 3 _ rfl; (with_reducible repeat (first | refine blk_drewN ?_ _ | refine blk_drew ?_ | refine blk_alloc ?_ _)); refine blk_put (cs := #[.bool a1_0, .int .u64 t166, .int .u64 0, .int .u64 0, .int .u64 0]) ?_ 2 _ rfl; (with_reducible repeat (first | refine blk_drewN ?_ _ | refine blk_drew ?_ | refine blk_alloc ?_ _)); refine blk_put (cs := #[.bool a1_0, .int .u64 0, .int .u64 0, .int .u64 0, .int .u64 0]) ?_ 1 _ rfl; (with_reducible repeat (first | refine blk_drewN ?_ _ | refine blk_drew ?_ | refine blk_alloc ?_ _)); refine blk_put (cs := #[.bool false, .int .u64 0, .int .u64 0, .int .u64 0, .int .u64 0]) ?_ 0 _ rfl; (with_reducible repeat (first | refine blk_drewN ?_ _ | refine blk_drew ?_ | refine blk_alloc ?_ _)); exact BK160.out) Try.underlying31 rfl (by kernel_rfl)) rfl ?_
      exact ⟨by first | rfl | (simp [errW_none, errW_some] <;> rfl) | (simp [*, errW_none, errW_some] <;> rfl), by repeat (first | (with_reducible first | exact HB.out | apply below_alloc | apply pw_below_drewN | apply below_drew1 | refine below_set ?_ GE158.out | refine below_set ?_ GE159.out | refine below_set ?_ GE160.out) | exact HB.out)⟩
    · replace c21 := Bool.eq_false_iff.mpr c21
      subst c21
      have H1 : ((carouselref1_minus.f a0_1 a0_2 a0_3 a0_4 a1_1 a1_2 a1_3 a1_4).bind fun bt170 => (some (a0_0, bt170.1, bt170.2.1, bt170.2.2.1, bt170.2.2.2))) = some (r1, r2, r3, r4, r5) := by rw [if_neg (show ¬ (false = true) by decide)] at H; exact H
      clear H
      have H := H1
      clear H1
      replace H := Option.bind_eq_some_iff.mp H
      obtain ⟨⟨t170, t171, t172, t173⟩, A390, H⟩ := H
      replace H : (some (a0_0, t170, t171, t172, t173)) = some (r1, r2, r3, r4, r5) := H
      have A39 := Aside0.mk A390
      clear A390
      simp only [Option.some.injEq, Prod.mk.injEq] at H
      obtain ⟨rfl, rfl, rfl, rfl, rfl⟩ := H
      go_enter Try.func20, Try.ntmps20
      try go_wp2_with (first | ((with_reducible refine gate_dst (N := 2) rfl ?_); refine box_event ?hg (N := 2) ?hd (cs := #[.bool a0_0, .int .u64 a0_1, .int .u64 a0_2, .int .u64 a0_3, .int .u64 a0_4]) (t := 31) ?hr ?_; (case hd => rfl); (case hg => rfl); (case hr => first | (go_simp; done) | (go_simp; rfl)); intro gb158 hg w40 hbox hb; have n0_ := Aside0.mk (below_step (by repeat (first | (with_reducible first | exact HB.out | apply below_alloc | apply pw_below_drewN | apply below_drew1) | exact HB.out)) hb); have n1_ := Aside0.mk (hbox); have n2_ := Aside0.mk ((by rw [hg]; exact (below_size (by repeat (first | (with_reducible first | exact HB.out | apply below_alloc | apply pw_below_drewN | apply below_drew1) | exact HB.out))) : w.heap.size ≤ gb158)); have n3_ := Aside0.mk ((by rw [hg]; exact (below_size (by repeat (first | (with_reducible first | exact HB.out | apply below_alloc | apply pw_below_drewN | apply below_drew1) | exact HB.out))) : w.heap.size ≤ gb158)); clear HB; have HB := n0_; have BK158 := n1_; have GW158 := n2_; have GE158 := n3_; clear n0_ n1_ n2_ n3_; clear hb hbox hg) | ((with_reducible refine gate_dst (N := 3) rfl ?_); refine box_event ?hg (N := 3) ?hd (cs := #[.bool a1_0, .int .u64 a1_1, .int .u64 a1_2, .int .u64 a1_3, .int .u64 a1_4]) (t := 31) ?hr ?_; (case hd => rfl); (case hg => rfl); (case hr => first | (go_simp; done) | (go_simp; rfl)); intro gb159 hg w41 hbox hb; have n0_ := Aside0.mk (blk_below (g := gb158) (o := .cells #[.bool a0_0, .int .u64 a0_1, .int .u64 a0_2, .int .u64 a0_3, .int .u64 a0_4] 31 (0, 0)) (by (with_reducible repeat (first | refine blk_drewN ?_ _ | refine blk_drew ?_ | refine blk_alloc ?_ _)); exact BK158.out) hb); have n1_ := Aside0.mk (below_step (by repeat (first | (with_reducible first | exact HB.out | apply below_alloc | apply pw_below_drewN | apply below_drew1 | refine below_set ?_ GE158.out) | exact HB.out)) hb); have n2_ := Aside0.mk (hbox); have n3_ := Aside0.mk ((by rw [hg]; exact (below_size (by repeat (first | (with_reducible first | exact HB.out | apply below_alloc | apply pw_below_drewN | apply below_drew1 | refine below_set ?_ GE158.out) | exact HB.out))) : w.heap.size ≤ gb159)); have n4_ := Aside0.mk ((by rw [hg]; exact (below_size (by repeat (first | (with_reducible first | exact HB.out | apply below_alloc | apply pw_below_drewN | apply below_drew1 | refine below_set ?_ GE158.out) | exact HB.out))) : w.heap.size ≤ gb159)); have n5_ := Aside0.mk ((by rw [hg]; exact Nat.ne_of_lt (blk_lt (g := gb158) (o := .cells #[.bool a0_0, .int .u64 a0_1, .int .u64 a0_2, .int .u64 a0_3, .int .u64 a0_4] 31 (0, 0)) (by (with_reducible repeat (first | refine blk_drewN ?_ _ | refine blk_drew ?_ | refine blk_alloc ?_ _)); exact BK158.out)) : gb158 ≠ gb159)); have n6_ := Aside0.mk ((by rw [hg]; exact Nat.ne_of_gt (blk_lt (g := gb158) (o := .cells #[.bool a0_0, .int .u64 a0_1, .int .u64 a0_2, .int .u64 a0_3, .int .u64 a0_4] 31 (0, 0)) (by (with_reducible repeat (first | refine blk_drewN ?_ _ | refine blk_drew ?_ | refine blk_alloc ?_ _)); exact BK158.out)) : gb159 ≠ gb158)); clear BK158; clear HB; have BK158 := n0_; have HB := n1_; have BK159 := n2_; have GW159 := n3_; have GE159 := n4_; have NB158_159 := n5_; have NB159_158 := n6_; clear n0_ n1_ n2_ n3_ n4_ n5_ n6_; clear hb hbox hg) | ((with_reducible refine gate_dst (N := 4) rfl ?_); refine box_event ?hg (N := 4) ?hd (cs := #[.bool false, .int .u64 0, .int .u64 0, .int .u64 0, .int .u64 0]) (t := 31) ?hr ?_; (case hd => rfl); (case hg => rfl); (case hr => first | (go_simp; done) | (go_simp; rfl)); intro gb160 hg w42 hbox hb; have n0_ := Aside0.mk (blk_below (g := gb158) (o := .cells #[.bool a0_0, .int .u64 a0_1, .int .u64 a0_2, .int .u64 a0_3, .int .u64 a0_4] 31 (0, 0)) (by (with_reducible repeat (first | refine blk_drewN ?_ _ | refine blk_drew ?_ | refine blk_alloc ?_ _)); exact BK158.out) hb); have n1_ := Aside0.mk (blk_below (g := gb159) (o := .cells #[.bool a1_0, .int .u64 a1_1, .int .u64 a1_2, .int .u64 a1_3, .int .u64 a1_4] 31 (0, 0)) (by (with_reducible repeat (first | refine blk_drewN ?_ _ | refine blk_drew ?_ | refine blk_alloc ?_ _)); exact BK159.out) hb); have n2_ := Aside0.mk (below_step (by repeat (first | (with_reducible first | exact HB.out | apply below_alloc | apply pw_below_drewN | apply below_drew1 | refine below_set ?_ GE158.out | refine below_set ?_ GE159.out) | exact HB.out)) hb); have n3_ := Aside0.mk (hbox); have n4_ := Aside0.mk ((by rw [hg]; exact (below_size (by repeat (first | (with_reducible first | exact HB.out | apply below_alloc | apply pw_below_drewN | apply below_drew1 | refine below_set ?_ GE158.out | refine below_set ?_ GE159.out) | exact HB.out))) : w.heap.size ≤ gb160)); have n5_ := Aside0.mk ((by rw [hg]; exact (below_size (by repeat (first | (with_reducible first | exact HB.out | apply below_alloc | apply pw_below_drewN | apply below_drew1 | refine below_set ?_ GE158.out | refine below_set ?_ GE159.out) | exact HB.out))) : w.heap.size ≤ gb160)); have n6_ := Aside0.mk ((by rw [hg]; exact Nat.ne_of_lt (blk_lt (g := gb158) (o := .cells #[.bool a0_0, .int .u64 a0_1, .int .u64 a0_2, .int .u64 a0_3, .int .u64 a0_4] 31 (0, 0)) (by (with_reducible repeat (first | refine blk_drewN ?_ _ | refine blk_drew ?_ | refine blk_alloc ?_ _)); exact BK158.out)) : gb158 ≠ gb160)); have n7_ := Aside0.mk ((by rw [hg]; exact Nat.ne_of_gt (blk_lt (g := gb158) (o := .cells #[.bool a0_0, .int .u64 a0_1, .int .u64 a0_2, .int .u64 a0_3, .int .u64 a0_4] 31 (0, 0)) (by (with_reducible repeat (first | refine blk_drewN ?_ _ | refine blk_drew ?_ | refine blk_alloc ?_ _)); exact BK158.out)) : gb160 ≠ gb158)); have n8_ := Aside0.mk ((by rw [hg]; exact Nat.ne_of_lt (blk_lt (g := gb159) (o := .cells #[.bool a1_0, .int .u64 a1_1, .int .u64 a1_2, .int .u64 a1_3, .int .u64 a1_4] 31 (0, 0)) (by (with_reducible repeat (first | refine blk_drewN ?_ _ | refine blk_drew ?_ | refine blk_alloc ?_ _)); exact BK159.out)) : gb159 ≠ gb160)); have n9_ := Aside0.mk ((by rw [hg]; exact Nat.ne_of_gt (blk_lt (g := gb159) (o := .cells #[.bool a1_0, .int .u64 a1_1, .int .u64 a1_2, .int .u64 a1_3, .int .u64 a1_4] 31 (0, 0)) (by (with_reducible repeat (first | refine blk_drewN ?_ _ | refine blk_drew ?_ | refine blk_alloc ?_ _)); exact BK159.out)) : gb160 ≠ gb159)); clear BK158; clear BK159; clear HB; have BK158 := n0_; have BK159 := n1_; have HB := n2_; have BK160 := n3_; have GW160 := n4_; have GE160 := n5_; have NB158_160 := n6_; have NB160_158 := n7_; have NB159_160 := n8_; have NB160_159 := n9_; clear n0_ n1_ n2_ n3_ n4_ n5_ n6_ n7_ n8_ n9_; clear hb hbox hg; have hnb43 := NB158_159.out; have hnc43 := NB159_158.out; have hnb44 := NB158_160.out; have hnc44 := NB160_158.out; have hcz45_0 : w42.cell? ⟨gb158, 0, none⟩ = some (.bool a0_0) := (blk_cell BK158.out 0).trans rfl; have hcz45_1 : w42.cell? ⟨gb158, 1, none⟩ = some (.int .u64 a0_1) := (blk_cell BK158.out 1).trans rfl; have hcz45_2 : w42.cell? ⟨gb158, 2, none⟩ = some (.int .u64 a0_2) := (blk_cell BK158.out 2).trans rfl; have hcz45_3 : w42.cell? ⟨gb158, 3, none⟩ = some (.int .u64 a0_3) := (blk_cell BK158.out 3).trans rfl; have hcz45_4 : w42.cell? ⟨gb158, 4, none⟩ = some (.int .u64 a0_4) := (blk_cell BK158.out 4).trans rfl; have hfz45_0 := blk_frozen BK158.out 0; have hfz45_1 := blk_frozen BK158.out 1; have hfz45_2 := blk_frozen BK158.out 2; have hfz45_3 := blk_frozen BK158.out 3; have hfz45_4 := blk_frozen BK158.out 4; have hnb46 := NB159_160.out; have hnc46 := NB160_159.out; have hcz47_0 : w42.cell? ⟨gb159, 0, none⟩ = some (.bool a1_0) := (blk_cell BK159.out 0).trans rfl; have hcz47_1 : w42.cell? ⟨gb159, 1, none⟩ = some (.int .u64 a1_1) := (blk_cell BK159.out 1).trans rfl; have hcz47_2 : w42.cell? ⟨gb159, 2, none⟩ = some (.int .u64 a1_2) := (blk_cell BK159.out 2).trans rfl; have hcz47_3 : w42.cell? ⟨gb159, 3, none⟩ = some (.int .u64 a1_3) := (blk_cell BK159.out 3).trans rfl; have hcz47_4 : w42.cell? ⟨gb159, 4, none⟩ = some (.int .u64 a1_4) := (blk_cell BK159.out 4).trans rfl; have hfz47_0 := blk_frozen BK159.out 0; have hfz47_1 := blk_frozen BK159.out 1; have hfz47_2 := blk_frozen BK159.out 2; have hfz47_3 := blk_frozen BK159.out 3; have hfz47_4 := blk_frozen BK159.out 4) | ((with_reducible refine gate_callee (f := 43) rfl ?_); refine goesL_ (some 22) rfl rfl Try.func43 (by kernel_rfl) rfl #[.agg #[.int .u64 a0_1, .int .u64 a0_2, .int .u64 a0_3, .int .u64 a0_4], .agg #[.int .u64 a1_1, .int .u64 a1_2, .int .u64 a1_3, .int .u64 a1_4]] rfl (by (try simp only [List.map_toArray, List.map_cons, List.map_nil]); first | done | rfl | (simp only [List.length_drop, List.length_take]; rfl)) ?_; (with_reducible refine (carouselref1_less.calls a0_1 a0_2 a0_3 a0_4 a1_1 a1_2 a1_3 a1_4 false _ A20.out).mono ?_); rintro e w48 ⟨rfl, hb⟩; refine ⟨_, rfl, ?_⟩; have n0_ := Aside0.mk (blk_below (g := gb158) (o := .cells #[.bool a0_0, .int .u64 a0_1, .int .u64 a0_2, .int .u64 a0_3, .int .u64 a0_4] 31 (0, 0)) (by (with_reducible repeat (first | refine blk_drewN ?_ _ | refine blk_drew ?_ | refine blk_alloc ?_ _)); exact BK158.out) hb); have n1_ := Aside0.mk (blk_below (g := gb159) (o := .cells #[.bool a1_0, .int .u64 a1_1, .int .u64 a1_2, .int .u64 a1_3, .int .u64 a1_4] 31 (0, 0)) (by (with_reducible repeat (first | refine blk_drewN ?_ _ | refine blk_drew ?_ | refine blk_alloc ?_ _)); exact BK159.out) hb); have n2_ := Aside0.mk (blk_below (g := gb160) (o := .cells #[.bool false, .int .u64 0, .int .u64 0, .int .u64 0, .int .u64 0] 31 (0, 0)) (by (with_reducible repeat (first | refine blk_drewN ?_ _ | refine blk_drew ?_ | refine blk_alloc ?_ _)); exact BK160.out) hb); have n3_ := Aside0.mk (below_step (by repeat (first | (with_reducible first | exact HB.out | apply below_alloc | apply pw_below_drewN | apply below_drew1 | refine below_set ?_ GE158.out | refine below_set ?_ GE159.out | refine below_set ?_ GE160.out) | exact HB.out)) hb); clear BK158; clear BK159; clear BK160; clear HB; have BK158 := n0_; have BK159 := n1_; have BK160 := n2_; have HB := n3_; clear n0_ n1_ n2_ n3_; (try clear hb); (try clear hb2); (try clear hk); (try clear hi)))
      have n0_ := Aside0.mk (blk_drew BK158.out)
      have n1_ := Aside0.mk (blk_drew BK159.out)
      have n2_ := Aside0.mk (blk_drew BK160.out)
      have n3_ := Aside0.mk (below_drew1 HB.out)
      clear BK158
      clear BK159
      clear BK160
      clear HB
      have BK158 := n0_
      have BK159 := n1_
      have BK160 := n2_
      have HB := n3_
      clear n0_ n1_ n2_ n3_
      refine start_ (n := 9) (S := fun w' => w'.cell? ⟨gb158, 0, none⟩ = some (.bool a0_0) ∧ w'.cell? ⟨gb158, 1, none⟩ = some (.int .u64 a0_1) ∧ w'.cell? ⟨gb158, 2, none⟩ = some (.int .u64 a0_2) ∧ w'.cell? ⟨gb158, 3, none⟩ = some (.int .u64 a0_3) ∧ w'.cell? ⟨gb158, 4, none⟩ = some (.int .u64 a0_4) ∧ w'.cell? ⟨gb159, 0, none⟩ = some (.bool a1_0) ∧ w'.cell? ⟨gb159, 1, none⟩ = some (.int .u64 a1_1) ∧ w'.cell? ⟨gb159, 2, none⟩ = some (.int .u64 a1_2) ∧ w'.cell? ⟨gb159, 3, none⟩ = some (.int .u64 a1_3) ∧ w'.cell? ⟨gb159, 4, none⟩ = some (.int .u64 a1_4)) (ds := []) #[false, false, false, false, false, false, false, false, false] (by kernel_rfl) rfl rfl ⟨(blk_cell BK158.out 0).trans rfl, (blk_cell BK158.out 1).trans rfl, (blk_cell BK158.out 2).trans rfl, (blk_cell BK158.out 3).trans rfl, (blk_cell BK158.out 4).trans rfl, (blk_cell BK159.out 0).trans rfl, (blk_cell BK159.out 1).trans rfl, (blk_cell BK159.out 2).trans rfl, (blk_cell BK159.out 3).trans rfl, (blk_cell BK159.out 4).trans rfl⟩ (fun hHeld => ?_); refine with_tabW carouselref1_Plus.tab5 carouselref1_Plus.bits5 (fun HT_ HW_ => ?_)
      generalize w48.drew = w49 at BK158 BK159 BK160 HB hHeld ⊢
      refine pure_ (i := 0) (N := some 31) (v := ?_) (a' := ?_) #[true, false, false, false, false, false, false, false, false] rfl rfl (any_of HT_.out (by kernel_rfl)) (fun _ _ _ h => h) (Or.inl ⟨by rfl, ?_⟩) ?_ ?_
      rotate_left
      · intro w'
        go_simp
        with_reducible rfl
      rotate_left
      · simp only [Act.put, List.setIfInBounds_toArray, List.set_cons_zero, List.set_cons_succ, i64_w, i32_w]
        rfl
      refine pure_ (i := 2) (N := some 33) (v := ?_) (a' := ?_) #[true, false, true, false, false, false, false, false, false] rfl rfl (any_of HT_.out (by kernel_rfl)) (fun _ _ _ h => h) (Or.inl ⟨by rfl, ?_⟩) ?_ ?_
      rotate_left
      · intro w'
        go_simp
        with_reducible rfl
      rotate_left
      · simp only [Act.put, List.setIfInBounds_toArray, List.set_cons_zero, List.set_cons_succ, i64_w, i32_w]
        rfl
      refine pure_ (i := 4) (N := some 35) (v := ?_) (a' := ?_) #[true, false, true, false, true, false, false, false, false] rfl rfl (any_of HT_.out (by kernel_rfl)) (fun _ _ _ h => h) (Or.inl ⟨by rfl, ?_⟩) ?_ ?_
      rotate_left
      · intro w'
        go_simp
        with_reducible rfl
      rotate_left
      · simp only [Act.put, List.setIfInBounds_toArray, List.set_cons_zero, List.set_cons_succ, i64_w, i32_w]
        rfl
      refine take_ (i := 1) (N := some 32) (v := ?_) (a' := ?_) #[true, true, true, false, true, false, false, false, false] rfl rfl (take_ofW HT_.out HW_.out (by kernel_rfl)) (fun _ _ _ h => h) (Or.inl ⟨by rfl, ?_⟩) hHeld ?_ ?_
      rotate_left
      · rintro w' ⟨s0, s1, s2, s3, s4, s5, s6, s7, s8, s9⟩
        go_simp
        with_reducible rfl
      rotate_left
      · simp only [Act.put, List.setIfInBounds_toArray, List.set_cons_zero, List.set_cons_succ, i64_w, i32_w]
        rfl
      refine take_ (i := 3) (N := some 34) (v := ?_) (a' := ?_) #[true, true, true, true, true, false, false, false, false] rfl rfl (take_ofW HT_.out HW_.out (by kernel_rfl)) (fun _ _ _ h => h) (Or.inl ⟨by rfl, ?_⟩) hHeld ?_ ?_
      rotate_left
      · rintro w' ⟨s0, s1, s2, s3, s4, s5, s6, s7, s8, s9⟩
        go_simp
        with_reducible rfl
      rotate_left
      · simp only [Act.put, List.setIfInBounds_toArray, List.set_cons_zero, List.set_cons_succ, i64_w, i32_w]
        rfl
      refine take_ (i := 5) (N := some 36) (v := ?_) (a' := ?_) #[true, true, true, true, true, true, false, false, false] rfl rfl (take_ofW HT_.out HW_.out (by kernel_rfl)) (fun _ _ _ h => h) (Or.inl ⟨by rfl, ?_⟩) hHeld ?_ ?_
      rotate_left
      · rintro w' ⟨s0, s1, s2, s3, s4, s5, s6, s7, s8, s9⟩
        go_simp
        with_reducible rfl
      rotate_left
      · simp only [Act.put, List.setIfInBounds_toArray, List.set_cons_zero, List.set_cons_succ, i64_w, i32_w]
        rfl
      refine one_ (i := 6) (N := some 37) #[true, true, true, true, true, true, true, false, false] rfl rfl (one_of HT_.out (by kernel_rfl)) (by decide) (fun K hK => ?_)
      refine goes_ Try.func44 (by kernel_rfl) rfl #[.agg #[.int .u64 a0_1, .int .u64 a0_2, .int .u64 a0_3, .int .u64 a0_4], .agg #[.int .u64 a1_1, .int .u64 a1_2, .int .u64 a1_3, .int .u64 a1_4]] (by rfl) rfl rfl (by (try simp only [List.map_toArray, List.map_cons, List.map_nil]); first | done | rfl | (simp only [List.length_drop, List.length_take]; rfl)) ?_
      with_reducible refine (carouselref1_minus.calls a0_1 a0_2 a0_3 a0_4 a1_1 a1_2 a1_3 a1_4 t170 t171 t172 t173 _ A39.out).mono ?_
      rintro e w50 ⟨rfl, hb⟩
      refine ⟨_, rfl, ?_⟩
      have n0_ := Aside0.mk (blk_below (g := gb158) (o := .cells #[.bool a0_0, .int .u64 a0_1, .int .u64 a0_2, .int .u64 a0_3, .int .u64 a0_4] 31 (0, 0)) (by (with_reducible repeat (first | refine blk_drewN ?_ _ | refine blk_drew ?_ | refine blk_alloc ?_ _)); exact BK158.out) hb)
      have n1_ := Aside0.mk (blk_below (g := gb159) (o := .cells #[.bool a1_0, .int .u64 a1_1, .int .u64 a1_2, .int .u64 a1_3, .int .u64 a1_4] 31 (0, 0)) (by (with_reducible repeat (first | refine blk_drewN ?_ _ | refine blk_drew ?_ | refine blk_alloc ?_ _)); exact BK159.out) hb)
      have n2_ := Aside0.mk (blk_below (g := gb160) (o := .cells #[.bool false, .int .u64 0, .int .u64 0, .int .u64 0, .int .u64 0] 31 (0, 0)) (by (with_reducible repeat (first | refine blk_drewN ?_ _ | refine blk_drew ?_ | refine blk_alloc ?_ _)); exact BK160.out) hb)
      have n3_ := Aside0.mk (below_step (by repeat (first | (with_reducible first | exact HB.out | apply below_alloc | apply pw_below_drewN | apply below_drew1 | refine below_set ?_ GE158.out | refine below_set ?_ GE159.out | refine below_set ?_ GE160.out) | exact HB.out)) hb)
      clear BK158
      clear BK159
      clear BK160
      clear HB
      have BK158 := n0_
      have BK159 := n1_
      have BK160 := n2_
      have HB := n3_
      clear n0_ n1_ n2_ n3_
      (try clear hb)
      (try clear hb2)
      (try clear hk)
      (try clear hi)
      refine hK.out _ _ ⟨(blk_cell BK158.out 0).trans rfl, (blk_cell BK158.out 1).trans rfl, (blk_cell BK158.out 2).trans rfl, (blk_cell BK158.out 3).trans rfl, (blk_cell BK158.out 4).trans rfl, (blk_cell BK159.out 0).trans rfl, (blk_cell BK159.out 1).trans rfl, (blk_cell BK159.out 2).trans rfl, (blk_cell BK159.out 3).trans rfl, (blk_cell BK159.out 4).trans rfl⟩ (fun hHeld => ?_)
      clear hK K
      refine norm_ (a' := ?_) ?_ ?_
      rotate_left
      · show Act.put _ (some 37) _ = _
        simp only [Act.put, List.setIfInBounds_toArray, List.set_cons_zero, List.set_cons_succ, i64_w, i32_w]
        rfl
      refine pure_ (i := 7) (N := some 38) (v := ?_) (a' := ?_) #[true, true, true, true, true, true, true, true, false] rfl rfl (any_of HT_.out (by kernel_rfl)) (fun _ _ _ h => h) (Or.inl ⟨by rfl, ?_⟩) ?_ ?_
      rotate_left
      · intro w'
        go_simp
        with_reducible rfl
      rotate_left
      · simp only [Act.put, List.setIfInBounds_toArray, List.set_cons_zero, List.set_cons_succ, i64_w, i32_w]
        rfl
      refine one_ (i := 8) (N := none) #[true, true, true, true, true, true, true, true, true] rfl rfl (one_of HT_.out (by kernel_rfl)) (by decide) (fun K hK => ?_)
      have hs51 : w50.cell? ⟨gb160, 0, none⟩ = some (.bool false) := (blk_cell BK160.out 0).trans rfl
      have hfs51 := blk_frozen BK160.out 0
      have hns51_0 := NB158_160.out
      have hns51_1 := NB159_160.out
      have hms51_0 := NB160_158.out
      have hms51_1 := NB160_159.out
      have hs52 : w50.cell? ⟨gb160, 1, none⟩ = some (.int .u64 0) := (blk_cell BK160.out 1).trans rfl
      have hfs52 := blk_frozen BK160.out 1
      have hns52_0 := NB158_160.out
      have hns52_1 := NB159_160.out
      have hms52_0 := NB160_158.out
      have hms52_1 := NB160_159.out
      have hs53 : w50.cell? ⟨gb160, 2, none⟩ = some (.int .u64 0) := (blk_cell BK160.out 2).trans rfl
      have hfs53 := blk_frozen BK160.out 2
      have hns53_0 := NB158_160.out
      have hns53_1 := NB159_160.out
      have hms53_0 := NB160_158.out
      have hms53_1 := NB160_159.out
      have hs54 : w50.cell? ⟨gb160, 3, none⟩ = some (.int .u64 0) := (blk_cell BK160.out 3).trans rfl
      have hfs54 := blk_frozen BK160.out 3
      have hns54_0 := NB158_160.out
      have hns54_1 := NB159_160.out
      have hms54_0 := NB160_158.out
      have hms54_1 := NB160_159.out
      have hs55 : w50.cell? ⟨gb160, 4, none⟩ = some (.int .u64 0) := (blk_cell BK160.out 4).trans rfl
      have hfs55 := blk_frozen BK160.out 4
      have hns55_0 := NB158_160.out
      have hns55_1 := NB159_160.out
      have hms55_0 := NB160_158.out
      have hms55_1 := NB160_159.out
      refine skip_ (w1 := ?_) (by rfl) rfl ?_ ?_
      rotate_left
      · go_simp
        rfl
      refine hK.out _ _ ⟨((cell_far (p := ⟨gb160, _, none⟩) NB158_160.out _).trans (((cell_far (p := ⟨gb160, _, none⟩) NB158_160.out _).trans (((cell_far (p := ⟨gb160, _, none⟩) NB158_160.out _).trans (((cell_far (p := ⟨gb160, _, none⟩) NB158_160.out _).trans (((cell_far (p := ⟨gb160, _, none⟩) NB158_160.out _).trans (hHeld.1)))))))))), ((cell_far (p := ⟨gb160, _, none⟩) NB158_160.out _).trans (((cell_far (p := ⟨gb160, _, none⟩) NB158_160.out _).trans (((cell_far (p := ⟨gb160, _, none⟩) NB158_160.out _).trans (((cell_far (p := ⟨gb160, _, none⟩) NB158_160.out _).trans (((cell_far (p := ⟨gb160, _, none⟩) NB158_160.out _).trans (hHeld.2.1)))))))))), ((cell_far (p := ⟨gb160, _, none⟩) NB158_160.out _).trans (((cell_far (p := ⟨gb160, _, none⟩) NB158_160.out _).trans (((cell_far (p := ⟨gb160, _, none⟩) NB158_160.out _).trans (((cell_far (p := ⟨gb160, _, none⟩) NB158_160.out _).trans (((cell_far (p := ⟨gb160, _, none⟩) NB158_160.out _).trans (hHeld.2.2.1)))))))))), ((cell_far (p := ⟨gb160, _, none⟩) NB158_160.out _).trans (((cell_far (p := ⟨gb160, _, none⟩) NB158_160.out _).trans (((cell_far (p := ⟨gb160, _, none⟩) NB158_160.out _).trans (((cell_far (p := ⟨gb160, _, none⟩) NB158_160.out _).trans (((cell_far (p := ⟨gb160, _, none⟩) NB158_160.out _).trans (hHeld.2.2.2.1)))))))))), ((cell_far (p := ⟨gb160, _, none⟩) NB158_160.out _).trans (((cell_far (p := ⟨gb160, _, none⟩) NB158_160.out _).trans (((cell_far (p := ⟨gb160, _, none⟩) NB158_160.out _).trans (((cell_far (p := ⟨gb160, _, none⟩) NB158_160.out _).trans (((cell_far (p := ⟨gb160, _, none⟩) NB158_160.out _).trans (hHeld.2.2.2.2.1)))))))))), ((cell_far (p := ⟨gb160, _, none⟩) NB159_160.out _).trans (((cell_far (p := ⟨gb160, _, none⟩) NB159_160.out _).trans (((cell_far (p := ⟨gb160, _, none⟩) NB159_160.out _).trans (((cell_far (p := ⟨gb160, _, none⟩) NB159_160.out _).trans (((cell_far (p := ⟨gb160, _, none⟩) NB159_160.out _).trans (hHeld.2.2.2.2.2.1)))))))))), ((cell_far (p := ⟨gb160, _, none⟩) NB159_160.out _).trans (((cell_far (p := ⟨gb160, _, none⟩) NB159_160.out _).trans (((cell_far (p := ⟨gb160, _, none⟩) NB159_160.out _).trans (((cell_far (p := ⟨gb160, _, none⟩) NB159_160.out _).trans (((cell_far (p := ⟨gb160, _, none⟩) NB159_160.out _).trans (hHeld.2.2.2.2.2.2.1)))))))))), ((cell_far (p := ⟨gb160, _, none⟩) NB159_160.out _).trans (((cell_far (p := ⟨gb160, _, none⟩) NB159_160.out _).trans (((cell_far (p := ⟨gb160, _, none⟩) NB159_160.out _).trans (((cell_far (p := ⟨gb160, _, none⟩) NB159_160.out _).trans (((cell_far (p := ⟨gb160, _, none⟩) NB159_160.out _).trans (hHeld.2.2.2.2.2.2.2.1)))))))))), ((cell_far (p := ⟨gb160, _, none⟩) NB159_160.out _).trans (((cell_far (p := ⟨gb160, _, none⟩) NB159_160.out _).trans (((cell_far (p := ⟨gb160, _, none⟩) NB159_160.out _).trans (((cell_far (p := ⟨gb160, _, none⟩) NB159_160.out _).trans (((cell_far (p := ⟨gb160, _, none⟩) NB159_160.out _).trans (hHeld.2.2.2.2.2.2.2.2.1)))))))))), ((cell_far (p := ⟨gb160, _, none⟩) NB159_160.out _).trans (((cell_far (p := ⟨gb160, _, none⟩) NB159_160.out _).trans (((cell_far (p := ⟨gb160, _, none⟩) NB159_160.out _).trans (((cell_far (p := ⟨gb160, _, none⟩) NB159_160.out _).trans (((cell_far (p := ⟨gb160, _, none⟩) NB159_160.out _).trans (hHeld.2.2.2.2.2.2.2.2.2))))))))))⟩ (fun hHeld => ?_)
      clear hK K
      refine done_ (done_of HT_.out (by kernel_rfl)) ?_
      try go_wp2
      refine bodyPost_ret (results_cell_row rfl _ _ gb160 31 #[.bool a0_0, .int .u64 t170, .int .u64 t171, .int .u64 t172, .int .u64 t173] (0, 0) _ rfl (by (with_reducible repeat (first | refine blk_drewN ?_ _ | refine blk_drew ?_ | refine blk_alloc ?_ _)); refine blk_put (cs := #[.bool a0_0, .int .u64 t170, .int .u64 t171, .int .u64 t172, .int .u64 0]) ?_ 4 _ rfl; (with_reducible repeat (first | refine blk_drewN ?_ _ | refine blk_drew ?_ | refine blk_alloc ?_ _)); refine blk_put (cs := #[.bool a0_0, .int .u64 t170, .int .u64 t171, .int .u64 0, .int .u64 0]) ?_ 3 _ rfl; (with_reducible repeat (first | refine blk_drewN ?_ _ | refine blk_drew ?_ | refine blk_alloc ?_ _)); refine blk_put (cs := #[.bool a0_0, .int .u64 t170, .int .u64 0, .int .u64 0, .int .u64 0]) ?_ 2 _ rfl; (with_reducible repeat (first | refine blk_drewN ?_ _ | refine blk_drew ?_ | refine blk_alloc ?_ _)); refine blk_put (cs := #[.bool a0_0, .int .u64 0, .int .u64 0, .int .u64 0, .int .u64 0]) ?_ 1 _ rfl; (with_reducible repeat (first | refine blk_drewN ?_ _ | refine blk_drew ?_ | refine blk_alloc ?_ _)); refine blk_put (cs := #[.bool false, .int .u64 0, .int .u64 0, .int .u64 0, .int .u64 0]) ?_ 0 _ rfl; (with_reducible repeat (first | refine blk_drewN ?_ _ | refine blk_drew ?_ | refine blk_alloc ?_ _)); exact BK160.out) Try.underlying31 rfl (by kernel_rfl)) rfl ?_
      exact ⟨by first | rfl | (simp [errW_none, errW_some] <;> rfl) | (simp [*, errW_none, errW_some] <;> rfl), by repeat (first | (with_reducible first | exact HB.out | apply below_alloc | apply pw_below_drewN | apply below_drew1 | refine below_set ?_ GE158.out | refine below_set ?_ GE159.out | refine below_set ?_ GE160.out) | exact HB.out)⟩

/-! ### carouselref1_Num: function 33 -/
def carouselref1_Num.f (a0_0 : Int) (a0_1 : Int) : Option (Bool × Int × Int × Int × Int) := if a0_0 ≥ 0 then (some (false, a0_1, IntKind.u64.wrap (a0_0), 0, 0)) else (if (IntKind.u64.wrap ((Go.bits .xor .u64 18446744073709551615 a0_1) + 1)) = 0 then (some (true, IntKind.u64.wrap ((Go.bits .xor .u64 18446744073709551615 a0_1) + 1), IntKind.u64.wrap ((Go.bits .xor .u64 18446744073709551615 (IntKind.u64.wrap (a0_0))) + 1), 0, 0)) else (some (true, IntKind.u64.wrap ((Go.bits .xor .u64 18446744073709551615 a0_1) + 1), Go.bits .xor .u64 18446744073709551615 (IntKind.u64.wrap (a0_0)), 0, 0)))
set_option maxHeartbeats 8000000 in
set_option maxRecDepth 100000 in
theorem carouselref1_Num.calls (a0_0 : Int) (a0_1 : Int) (r1 : Bool) (r2 : Int) (r3 : Int) (r4 : Int) (r5 : Int) (w : World) (h : carouselref1_Num.f a0_0 a0_1 = some (r1, r2, r3, r4, r5)) :
    Calls Try.prog 33 #[.agg #[.int .i64 a0_0, .int .u64 a0_1]] w fun e w' => e = .returned (.agg #[.bool r1, .int .u64 r2, .int .u64 r3, .int .u64 r4, .int .u64 r5]) ∧ Below w.heap.size w w' := by
  have hu25 := Try.underlying25
  have hu31 := Try.underlying31
  have hu29 := Try.underlying29
  have HB := Aside0.mk (Below.refl w.heap.size w)
  have H : (if a0_0 ≥ 0 then (some (false, a0_1, IntKind.u64.wrap (a0_0), 0, 0)) else (if (IntKind.u64.wrap ((Go.bits .xor .u64 18446744073709551615 a0_1) + 1)) = 0 then (some (true, IntKind.u64.wrap ((Go.bits .xor .u64 18446744073709551615 a0_1) + 1), IntKind.u64.wrap ((Go.bits .xor .u64 18446744073709551615 (IntKind.u64.wrap (a0_0))) + 1), 0, 0)) else (some (true, IntKind.u64.wrap ((Go.bits .xor .u64 18446744073709551615 a0_1) + 1), Go.bits .xor .u64 18446744073709551615 (IntKind.u64.wrap (a0_0)), 0, 0)))) = some (r1, r2, r3, r4, r5) := h
  clear h
  by_cases c2 : a0_0 ≥ 0
  · rw [if_pos c2] at H
    have c2b0 : decide (0 ≤ a0_0) = true := decide_eq_true c2
    clear c2
    simp only [Option.some.injEq, Prod.mk.injEq] at H
    obtain ⟨rfl, rfl, rfl, rfl, rfl⟩ := H
    go_enter Try.func33, Try.ntmps33
    go_wp2_with (first | ((with_reducible refine gate_dst (N := 1) rfl ?_); refine box_event ?hg (N := 1) ?hd (cs := #[.int .i64 a0_0, .int .u64 a0_1]) (t := 25) ?hr ?_; (case hd => rfl); (case hg => rfl); (case hr => first | (go_simp; done) | (go_simp; rfl)); intro gb174 hg w3 hbox hb; have n0_ := Aside0.mk (below_step (by repeat (first | (with_reducible first | exact HB.out | apply below_alloc | apply pw_below_drewN | apply below_drew1) | exact HB.out)) hb); have n1_ := Aside0.mk (hbox); have n2_ := Aside0.mk ((by rw [hg]; exact (below_size (by repeat (first | (with_reducible first | exact HB.out | apply below_alloc | apply pw_below_drewN | apply below_drew1) | exact HB.out))) : w.heap.size ≤ gb174)); have n3_ := Aside0.mk ((by rw [hg]; exact (below_size (by repeat (first | (with_reducible first | exact HB.out | apply below_alloc | apply pw_below_drewN | apply below_drew1) | exact HB.out))) : w.heap.size ≤ gb174)); clear HB; have HB := n0_; have BK174 := n1_; have GW174 := n2_; have GE174 := n3_; clear n0_ n1_ n2_ n3_; clear hb hbox hg) | ((with_reducible refine gate_dst (N := 2) rfl ?_); refine box_event ?hg (N := 2) ?hd (cs := #[.bool false, .int .u64 0, .int .u64 0, .int .u64 0, .int .u64 0]) (t := 31) ?hr ?_; (case hd => rfl); (case hg => rfl); (case hr => first | (go_simp; done) | (go_simp; rfl)); intro gb175 hg w4 hbox hb; have n0_ := Aside0.mk (blk_below (g := gb174) (o := .cells #[.int .i64 a0_0, .int .u64 a0_1] 25 (0, 0)) (by (with_reducible repeat (first | refine blk_drewN ?_ _ | refine blk_drew ?_ | refine blk_alloc ?_ _)); exact BK174.out) hb); have n1_ := Aside0.mk (below_step (by repeat (first | (with_reducible first | exact HB.out | apply below_alloc | apply pw_below_drewN | apply below_drew1 | refine below_set ?_ GE174.out) | exact HB.out)) hb); have n2_ := Aside0.mk (hbox); have n3_ := Aside0.mk ((by rw [hg]; exact (below_size (by repeat (first | (with_reducible first | exact HB.out | apply below_alloc | apply pw_below_drewN | apply below_drew1 | refine below_set ?_ GE174.out) | exact HB.out))) : w.heap.size ≤ gb175)); have n4_ := Aside0.mk ((by rw [hg]; exact (below_size (by repeat (first | (with_reducible first | exact HB.out | apply below_alloc | apply pw_below_drewN | apply below_drew1 | refine below_set ?_ GE174.out) | exact HB.out))) : w.heap.size ≤ gb175)); have n5_ := Aside0.mk ((by rw [hg]; exact Nat.ne_of_lt (blk_lt (g := gb174) (o := .cells #[.int .i64 a0_0, .int .u64 a0_1] 25 (0, 0)) (by (with_reducible repeat (first | refine blk_drewN ?_ _ | refine blk_drew ?_ | refine blk_alloc ?_ _)); exact BK174.out)) : gb174 ≠ gb175)); have n6_ := Aside0.mk ((by rw [hg]; exact Nat.ne_of_gt (blk_lt (g := gb174) (o := .cells #[.int .i64 a0_0, .int .u64 a0_1] 25 (0, 0)) (by (with_reducible repeat (first | refine blk_drewN ?_ _ | refine blk_drew ?_ | refine blk_alloc ?_ _)); exact BK174.out)) : gb175 ≠ gb174)); clear BK174; clear HB; have BK174 := n0_; have HB := n1_; have BK175 := n2_; have GW175 := n3_; have GE175 := n4_; have NB174_175 := n5_; have NB175_174 := n6_; clear n0_ n1_ n2_ n3_ n4_ n5_ n6_; clear hb hbox hg; have hnb5 := NB174_175.out; have hnc5 := NB175_174.out; have hcz6_0 : w4.cell? ⟨gb174, 0, none⟩ = some (.int .i64 a0_0) := (blk_cell BK174.out 0).trans rfl; have hcz6_1 : w4.cell? ⟨gb174, 1, none⟩ = some (.int .u64 a0_1) := (blk_cell BK174.out 1).trans rfl; have hfz6_0 := blk_frozen BK174.out 0; have hfz6_1 := blk_frozen BK174.out 1; have hcz7_0 : w4.cell? ⟨gb175, 0, none⟩ = some (.bool false) := (blk_cell BK175.out 0).trans rfl; have hcz7_1 : w4.cell? ⟨gb175, 1, none⟩ = some (.int .u64 0) := (blk_cell BK175.out 1).trans rfl; have hcz7_2 : w4.cell? ⟨gb175, 2, none⟩ = some (.int .u64 0) := (blk_cell BK175.out 2).trans rfl; have hcz7_3 : w4.cell? ⟨gb175, 3, none⟩ = some (.int .u64 0) := (blk_cell BK175.out 3).trans rfl; have hcz7_4 : w4.cell? ⟨gb175, 4, none⟩ = some (.int .u64 0) := (blk_cell BK175.out 4).trans rfl; have hfz7_0 := blk_frozen BK175.out 0; have hfz7_1 := blk_frozen BK175.out 1; have hfz7_2 := blk_frozen BK175.out 2; have hfz7_3 := blk_frozen BK175.out 3; have hfz7_4 := blk_frozen BK175.out 4))
    repeat (go_quiet (first | ((with_reducible refine gate_dst (N := 1) rfl ?_); refine box_event ?hg (N := 1) ?hd (cs := #[.int .i64 a0_0, .int .u64 a0_1]) (t := 25) ?hr ?_; (case hd => rfl); (case hg => rfl); (case hr => first | (go_simp; done) | (go_simp; rfl)); intro gb174 hg w3 hbox hb; have n0_ := Aside0.mk (below_step (by repeat (first | (with_reducible first | exact HB.out | apply below_alloc | apply pw_below_drewN | apply below_drew1) | exact HB.out)) hb); have n1_ := Aside0.mk (hbox); have n2_ := Aside0.mk ((by rw [hg]; exact (below_size (by repeat (first | (with_reducible first | exact HB.out | apply below_alloc | apply pw_below_drewN | apply below_drew1) | exact HB.out))) : w.heap.size ≤ gb174)); have n3_ := Aside0.mk ((by rw [hg]; exact (below_size (by repeat (first | (with_reducible first | exact HB.out | apply below_alloc | apply pw_below_drewN | apply below_drew1) | exact HB.out))) : w.heap.size ≤ gb174)); clear HB; have HB := n0_; have BK174 := n1_; have GW174 := n2_; have GE174 := n3_; clear n0_ n1_ n2_ n3_; clear hb hbox hg) | ((with_reducible refine gate_dst (N := 2) rfl ?_); refine box_event ?hg (N := 2) ?hd (cs := #[.bool false, .int .u64 0, .int .u64 0, .int .u64 0, .int .u64 0]) (t := 31) ?hr ?_; (case hd => rfl); (case hg => rfl); (case hr => first | (go_simp; done) | (go_simp; rfl)); intro gb175 hg w4 hbox hb; have n0_ := Aside0.mk (blk_below (g := gb174) (o := .cells #[.int .i64 a0_0, .int .u64 a0_1] 25 (0, 0)) (by (with_reducible repeat (first | refine blk_drewN ?_ _ | refine blk_drew ?_ | refine blk_alloc ?_ _)); exact BK174.out) hb); have n1_ := Aside0.mk (below_step (by repeat (first | (with_reducible first | exact HB.out | apply below_alloc | apply pw_below_drewN | apply below_drew1 | refine below_set ?_ GE174.out) | exact HB.out)) hb); have n2_ := Aside0.mk (hbox); have n3_ := Aside0.mk ((by rw [hg]; exact (below_size (by repeat (first | (with_reducible first | exact HB.out | apply below_alloc | apply pw_below_drewN | apply below_drew1 | refine below_set ?_ GE174.out) | exact HB.out))) : w.heap.size ≤ gb175)); have n4_ := Aside0.mk ((by rw [hg]; exact (below_size (by repeat (first | (with_reducible first | exact HB.out | apply below_alloc | apply pw_below_drewN | apply below_drew1 | refine below_set ?_ GE174.out) | exact HB.out))) : w.heap.size ≤ gb175)); have n5_ := Aside0.mk ((by rw [hg]; exact Nat.ne_of_lt (blk_lt (g := gb174) (o := .cells #[.int .i64 a0_0, .int .u64 a0_1] 25 (0, 0)) (by (with_reducible repeat (first | refine blk_drewN ?_ _ | refine blk_drew ?_ | refine blk_alloc ?_ _)); exact BK174.out)) : gb174 ≠ gb175)); have n6_ := Aside0.mk ((by rw [hg]; exact Nat.ne_of_gt (blk_lt (g := gb174) (o := .cells #[.int .i64 a0_0, .int .u64 a0_1] 25 (0, 0)) (by (with_reducible repeat (first | refine blk_drewN ?_ _ | refine blk_drew ?_ | refine blk_alloc ?_ _)); exact BK174.out)) : gb175 ≠ gb174)); clear BK174; clear HB; have BK174 := n0_; have HB := n1_; have BK175 := n2_; have GW175 := n3_; have GE175 := n4_; have NB174_175 := n5_; have NB175_174 := n6_; clear n0_ n1_ n2_ n3_ n4_ n5_ n6_; clear hb hbox hg; have hnb5 := NB174_175.out; have hnc5 := NB175_174.out; have hcz6_0 : w4.cell? ⟨gb174, 0, none⟩ = some (.int .i64 a0_0) := (blk_cell BK174.out 0).trans rfl; have hcz6_1 : w4.cell? ⟨gb174, 1, none⟩ = some (.int .u64 a0_1) := (blk_cell BK174.out 1).trans rfl; have hfz6_0 := blk_frozen BK174.out 0; have hfz6_1 := blk_frozen BK174.out 1; have hcz7_0 : w4.cell? ⟨gb175, 0, none⟩ = some (.bool false) := (blk_cell BK175.out 0).trans rfl; have hcz7_1 : w4.cell? ⟨gb175, 1, none⟩ = some (.int .u64 0) := (blk_cell BK175.out 1).trans rfl; have hcz7_2 : w4.cell? ⟨gb175, 2, none⟩ = some (.int .u64 0) := (blk_cell BK175.out 2).trans rfl; have hcz7_3 : w4.cell? ⟨gb175, 3, none⟩ = some (.int .u64 0) := (blk_cell BK175.out 3).trans rfl; have hcz7_4 : w4.cell? ⟨gb175, 4, none⟩ = some (.int .u64 0) := (blk_cell BK175.out 4).trans rfl; have hfz7_0 := blk_frozen BK175.out 0; have hfz7_1 := blk_frozen BK175.out 1; have hfz7_2 := blk_frozen BK175.out 2; have hfz7_3 := blk_frozen BK175.out 3; have hfz7_4 := blk_frozen BK175.out 4)); try go_wp2_with (first | ((with_reducible refine gate_dst (N := 1) rfl ?_); refine box_event ?hg (N := 1) ?hd (cs := #[.int .i64 a0_0, .int .u64 a0_1]) (t := 25) ?hr ?_; (case hd => rfl); (case hg => rfl); (case hr => first | (go_simp; done) | (go_simp; rfl)); intro gb174 hg w3 hbox hb; have n0_ := Aside0.mk (below_step (by repeat (first | (with_reducible first | exact HB.out | apply below_alloc | apply pw_below_drewN | apply below_drew1) | exact HB.out)) hb); have n1_ := Aside0.mk (hbox); have n2_ := Aside0.mk ((by rw [hg]; exact (below_size (by repeat (first | (with_reducible first | exact HB.out | apply below_alloc | apply pw_below_drewN | apply below_drew1) | exact HB.out))) : w.heap.size ≤ gb174)); have n3_ := Aside0.mk ((by rw [hg]; exact (below_size (by repeat (first | (with_reducible first | exact HB.out | apply below_alloc | apply pw_below_drewN | apply below_drew1) | exact HB.out))) : w.heap.size ≤ gb174)); clear HB; have HB := n0_; have BK174 := n1_; have GW174 := n2_; have GE174 := n3_; clear n0_ n1_ n2_ n3_; clear hb hbox hg) | ((with_reducible refine gate_dst (N := 2) rfl ?_); refine box_event ?hg (N := 2) ?hd (cs := #[.bool false, .int .u64 0, .int .u64 0, .int .u64 0, .int .u64 0]) (t := 31) ?hr ?_; (case hd => rfl); (case hg => rfl); (case hr => first | (go_simp; done) | (go_simp; rfl)); intro gb175 hg w4 hbox hb; have n0_ := Aside0.mk (blk_below (g := gb174) (o := .cells #[.int .i64 a0_0, .int .u64 a0_1] 25 (0, 0)) (by (with_reducible repeat (first | refine blk_drewN ?_ _ | refine blk_drew ?_ | refine blk_alloc ?_ _)); exact BK174.out) hb); have n1_ := Aside0.mk (below_step (by repeat (first | (with_reducible first | exact HB.out | apply below_alloc | apply pw_below_drewN | apply below_drew1 | refine below_set ?_ GE174.out) | exact HB.out)) hb); have n2_ := Aside0.mk (hbox); have n3_ := Aside0.mk ((by rw [hg]; exact (below_size (by repeat (first | (with_reducible first | exact HB.out | apply below_alloc | apply pw_below_drewN | apply below_drew1 | refine below_set ?_ GE174.out) | exact HB.out))) : w.heap.size ≤ gb175)); have n4_ := Aside0.mk ((by rw [hg]; exact (below_size (by repeat (first | (with_reducible first | exact HB.out | apply below_alloc | apply pw_below_drewN | apply below_drew1 | refine below_set ?_ GE174.out) | exact HB.out))) : w.heap.size ≤ gb175)); have n5_ := Aside0.mk ((by rw [hg]; exact Nat.ne_of_lt (blk_lt (g := gb174) (o := .cells #[.int .i64 a0_0, .int .u64 a0_1] 25 (0, 0)) (by (with_reducible repeat (first | refine blk_drewN ?_ _ | refine blk_drew ?_ | refine blk_alloc ?_ _)); exact BK174.out)) : gb174 ≠ gb175)); have n6_ := Aside0.mk ((by rw [hg]; exact Nat.ne_of_gt (blk_lt (g := gb174) (o := .cells #[.int .i64 a0_0, .int .u64 a0_1] 25 (0, 0)) (by (with_reducible repeat (first | refine blk_drewN ?_ _ | refine blk_drew ?_ | refine blk_alloc ?_ _)); exact BK174.out)) : gb175 ≠ gb174)); clear BK174; clear HB; have BK174 := n0_; have HB := n1_; have BK175 := n2_; have GW175 := n3_; have GE175 := n4_; have NB174_175 := n5_; have NB175_174 := n6_; clear n0_ n1_ n2_ n3_ n4_ n5_ n6_; clear hb hbox hg; have hnb5 := NB174_175.out; have hnc5 := NB175_174.out; have hcz6_0 : w4.cell? ⟨gb174, 0, none⟩ = some (.int .i64 a0_0) := (blk_cell BK174.out 0).trans rfl; have hcz6_1 : w4.cell? ⟨gb174, 1, none⟩ = some (.int .u64 a0_1) := (blk_cell BK174.out 1).trans rfl; have hfz6_0 := blk_frozen BK174.out 0; have hfz6_1 := blk_frozen BK174.out 1; have hcz7_0 : w4.cell? ⟨gb175, 0, none⟩ = some (.bool false) := (blk_cell BK175.out 0).trans rfl; have hcz7_1 : w4.cell? ⟨gb175, 1, none⟩ = some (.int .u64 0) := (blk_cell BK175.out 1).trans rfl; have hcz7_2 : w4.cell? ⟨gb175, 2, none⟩ = some (.int .u64 0) := (blk_cell BK175.out 2).trans rfl; have hcz7_3 : w4.cell? ⟨gb175, 3, none⟩ = some (.int .u64 0) := (blk_cell BK175.out 3).trans rfl; have hcz7_4 : w4.cell? ⟨gb175, 4, none⟩ = some (.int .u64 0) := (blk_cell BK175.out 4).trans rfl; have hfz7_0 := blk_frozen BK175.out 0; have hfz7_1 := blk_frozen BK175.out 1; have hfz7_2 := blk_frozen BK175.out 2; have hfz7_3 := blk_frozen BK175.out 3; have hfz7_4 := blk_frozen BK175.out 4)))
    refine bodyPost_ret (results_cell_row rfl _ _ gb175 31 #[.bool false, .int .u64 a0_1, .int .u64 (IntKind.u64.wrap (a0_0)), .int .u64 0, .int .u64 0] (0, 0) _ rfl (by (with_reducible repeat (first | refine blk_drewN ?_ _ | refine blk_drew ?_ | refine blk_alloc ?_ _)); refine blk_put (cs := #[.bool false, .int .u64 a0_1, .int .u64 (IntKind.u64.wrap (a0_0)), .int .u64 0, .int .u64 0]) ?_ 4 _ rfl; (with_reducible repeat (first | refine blk_drewN ?_ _ | refine blk_drew ?_ | refine blk_alloc ?_ _)); refine blk_put (cs := #[.bool false, .int .u64 a0_1, .int .u64 (IntKind.u64.wrap (a0_0)), .int .u64 0, .int .u64 0]) ?_ 3 _ rfl; (with_reducible repeat (first | refine blk_drewN ?_ _ | refine blk_drew ?_ | refine blk_alloc ?_ _)); refine blk_put (cs := #[.bool false, .int .u64 a0_1, .int .u64 0, .int .u64 0, .int .u64 0]) ?_ 2 _ rfl; (with_reducible repeat (first | refine blk_drewN ?_ _ | refine blk_drew ?_ | refine blk_alloc ?_ _)); refine blk_put (cs := #[.bool false, .int .u64 0, .int .u64 0, .int .u64 0, .int .u64 0]) ?_ 1 _ rfl; (with_reducible repeat (first | refine blk_drewN ?_ _ | refine blk_drew ?_ | refine blk_alloc ?_ _)); refine blk_put (cs := #[.bool false, .int .u64 0, .int .u64 0, .int .u64 0, .int .u64 0]) ?_ 0 _ rfl; (with_reducible repeat (first | refine blk_drewN ?_ _ | refine blk_drew ?_ | refine blk_alloc ?_ _)); exact BK175.out) Try.underlying31 rfl (by kernel_rfl)) rfl ?_
    exact ⟨by first | rfl | (simp [errW_none, errW_some] <;> rfl) | (simp [*, errW_none, errW_some] <;> rfl), by repeat (first | (with_reducible first | exact HB.out | apply below_alloc | apply pw_below_drewN | apply below_drew1 | refine below_set ?_ GE174.out | refine below_set ?_ GE175.out) | exact HB.out)⟩
  · rw [if_neg c2] at H
    have c2b0 : decide (0 ≤ a0_0) = false := decide_eq_false c2
    clear c2
    by_cases c8 : (IntKind.u64.wrap ((Go.bits .xor .u64 18446744073709551615 a0_1) + 1)) = 0
    · rw [if_pos c8] at H
      have c8b0 : ((IntKind.u64.wrap ((Go.bits .xor .u64 18446744073709551615 a0_1) + 1)) == 0) = true := beq_iff_eq.mpr c8
      have c8b1 : ((IntKind.u64.wrap ((Go.bits .xor .u64 18446744073709551615 a0_1) + 1)) != 0) = false := bne_eq_false_iff_eq.mpr c8
      clear c8
      simp only [Option.some.injEq, Prod.mk.injEq] at H
      obtain ⟨rfl, rfl, rfl, rfl, rfl⟩ := H
      go_enter Try.func33, Try.ntmps33
      go_wp2_with (first | ((with_reducible refine gate_dst (N := 1) rfl ?_); refine box_event ?hg (N := 1) ?hd (cs := #[.int .i64 a0_0, .int .u64 a0_1]) (t := 25) ?hr ?_; (case hd => rfl); (case hg => rfl); (case hr => first | (go_simp; done) | (go_simp; rfl)); intro gb174 hg w9 hbox hb; have n0_ := Aside0.mk (below_step (by repeat (first | (with_reducible first | exact HB.out | apply below_alloc | apply pw_below_drewN | apply below_drew1) | exact HB.out)) hb); have n1_ := Aside0.mk (hbox); have n2_ := Aside0.mk ((by rw [hg]; exact (below_size (by repeat (first | (with_reducible first | exact HB.out | apply below_alloc | apply pw_below_drewN | apply below_drew1) | exact HB.out))) : w.heap.size ≤ gb174)); have n3_ := Aside0.mk ((by rw [hg]; exact (below_size (by repeat (first | (with_reducible first | exact HB.out | apply below_alloc | apply pw_below_drewN | apply below_drew1) | exact HB.out))) : w.heap.size ≤ gb174)); clear HB; have HB := n0_; have BK174 := n1_; have GW174 := n2_; have GE174 := n3_; clear n0_ n1_ n2_ n3_; clear hb hbox hg) | ((with_reducible refine gate_dst (N := 2) rfl ?_); refine box_event ?hg (N := 2) ?hd (cs := #[.bool false, .int .u64 0, .int .u64 0, .int .u64 0, .int .u64 0]) (t := 31) ?hr ?_; (case hd => rfl); (case hg => rfl); (case hr => first | (go_simp; done) | (go_simp; rfl)); intro gb175 hg w10 hbox hb; have n0_ := Aside0.mk (blk_below (g := gb174) (o := .cells #[.int .i64 a0_0, .int .u64 a0_1] 25 (0, 0)) (by (with_reducible repeat (first | refine blk_drewN ?_ _ | refine blk_drew ?_ | refine blk_alloc ?_ _)); exact BK174.out) hb); have n1_ := Aside0.mk (below_step (by repeat (first | (with_reducible first | exact HB.out | apply below_alloc | apply pw_below_drewN | apply below_drew1 | refine below_set ?_ GE174.out) | exact HB.out)) hb); have n2_ := Aside0.mk (hbox); have n3_ := Aside0.mk ((by rw [hg]; exact (below_size (by repeat (first | (with_reducible first | exact HB.out | apply below_alloc | apply pw_below_drewN | apply below_drew1 | refine below_set ?_ GE174.out) | exact HB.out))) : w.heap.size ≤ gb175)); have n4_ := Aside0.mk ((by rw [hg]; exact (below_size (by repeat (first | (with_reducible first | exact HB.out | apply below_alloc | apply pw_below_drewN | apply below_drew1 | refine below_set ?_ GE174.out) | exact HB.out))) : w.heap.size ≤ gb175)); have n5_ := Aside0.mk ((by rw [hg]; exact Nat.ne_of_lt (blk_lt (g := gb174) (o := .cells #[.int .i64 a0_0, .int .u64 a0_1] 25 (0, 0)) (by (with_reducible repeat (first | refine blk_drewN ?_ _ | refine blk_drew ?_ | refine blk_alloc ?_ _)); exact BK174.out)) : gb174 ≠ gb175)); have n6_ := Aside0.mk ((by rw [hg]; exact Nat.ne_of_gt (blk_lt (g := gb174) (o := .cells #[.int .i64 a0_0, .int .u64 a0_1] 25 (0, 0)) (by (with_reducible repeat (first | refine blk_drewN ?_ _ | refine blk_drew ?_ | refine blk_alloc ?_ _)); exact BK174.out)) : gb175 ≠ gb174)); clear BK174; clear HB; have BK174 := n0_; have HB := n1_; have BK175 := n2_; have GW175 := n3_; have GE175 := n4_; have NB174_175 := n5_; have NB175_174 := n6_; clear n0_ n1_ n2_ n3_ n4_ n5_ n6_; clear hb hbox hg; have hnb11 := NB174_175.out; have hnc11 := NB175_174.out; have hcz12_0 : w10.cell? ⟨gb174, 0, none⟩ = some (.int .i64 a0_0) := (blk_cell BK174.out 0).trans rfl; have hcz12_1 : w10.cell? ⟨gb174, 1, none⟩ = some (.int .u64 a0_1) := (blk_cell BK174.out 1).trans rfl; have hfz12_0 := blk_frozen BK174.out 0; have hfz12_1 := blk_frozen BK174.out 1; have hcz13_0 : w10.cell? ⟨gb175, 0, none⟩ = some (.bool false) := (blk_cell BK175.out 0).trans rfl; have hcz13_1 : w10.cell? ⟨gb175, 1, none⟩ = some (.int .u64 0) := (blk_cell BK175.out 1).trans rfl; have hcz13_2 : w10.cell? ⟨gb175, 2, none⟩ = some (.int .u64 0) := (blk_cell BK175.out 2).trans rfl; have hcz13_3 : w10.cell? ⟨gb175, 3, none⟩ = some (.int .u64 0) := (blk_cell BK175.out 3).trans rfl; have hcz13_4 : w10.cell? ⟨gb175, 4, none⟩ = some (.int .u64 0) := (blk_cell BK175.out 4).trans rfl; have hfz13_0 := blk_frozen BK175.out 0; have hfz13_1 := blk_frozen BK175.out 1; have hfz13_2 := blk_frozen BK175.out 2; have hfz13_3 := blk_frozen BK175.out 3; have hfz13_4 := blk_frozen BK175.out 4))
      repeat (go_quiet (first | ((with_reducible refine gate_dst (N := 1) rfl ?_); refine box_event ?hg (N := 1) ?hd (cs := #[.int .i64 a0_0, .int .u64 a0_1]) (t := 25) ?hr ?_; (case hd => rfl); (case hg => rfl); (case hr => first | (go_simp; done) | (go_simp; rfl)); intro gb174 hg w9 hbox hb; have n0_ := Aside0.mk (below_step (by repeat (first | (with_reducible first | exact HB.out | apply below_alloc | apply pw_below_drewN | apply below_drew1) | exact HB.out)) hb); have n1_ := Aside0.mk (hbox); have n2_ := Aside0.mk ((by rw [hg]; exact (below_size (by repeat (first | (with_reducible first | exact HB.out | apply below_alloc | apply pw_below_drewN | apply below_drew1) | exact HB.out))) : w.heap.size ≤ gb174)); have n3_ := Aside0.mk ((by rw [hg]; exact (below_size (by repeat (first | (with_reducible first | exact HB.out | apply below_alloc | apply pw_below_drewN | apply below_drew1) | exact HB.out))) : w.heap.size ≤ gb174)); clear HB; have HB := n0_; have BK174 := n1_; have GW174 := n2_; have GE174 := n3_; clear n0_ n1_ n2_ n3_; clear hb hbox hg) | ((with_reducible refine gate_dst (N := 2) rfl ?_); refine box_event ?hg (N := 2) ?hd (cs := #[.bool false, .int .u64 0, .int .u64 0, .int .u64 0, .int .u64 0]) (t := 31) ?hr ?_; (case hd => rfl); (case hg => rfl); (case hr => first | (go_simp; done) | (go_simp; rfl)); intro gb175 hg w10 hbox hb; have n0_ := Aside0.mk (blk_below (g := gb174) (o := .cells #[.int .i64 a0_0, .int .u64 a0_1] 25 (0, 0)) (by (with_reducible repeat (first | refine blk_drewN ?_ _ | refine blk_drew ?_ | refine blk_alloc ?_ _)); exact BK174.out) hb); have n1_ := Aside0.mk (below_step (by repeat (first | (with_reducible first | exact HB.out | apply below_alloc | apply pw_below_drewN | apply below_drew1 | refine below_set ?_ GE174.out) | exact HB.out)) hb); have n2_ := Aside0.mk (hbox); have n3_ := Aside0.mk ((by rw [hg]; exact (below_size (by repeat (first | (with_reducible first | exact HB.out | apply below_alloc | apply pw_below_drewN | apply below_drew1 | refine below_set ?_ GE174.out) | exact HB.out))) : w.heap.size ≤ gb175)); have n4_ := Aside0.mk ((by rw [hg]; exact (below_size (by repeat (first | (with_reducible first | exact HB.out | apply below_alloc | apply pw_below_drewN | apply below_drew1 | refine below_set ?_ GE174.out) | exact HB.out))) : w.heap.size ≤ gb175)); have n5_ := Aside0.mk ((by rw [hg]; exact Nat.ne_of_lt (blk_lt (g := gb174) (o := .cells #[.int .i64 a0_0, .int .u64 a0_1] 25 (0, 0)) (by (with_reducible repeat (first | refine blk_drewN ?_ _ | refine blk_drew ?_ | refine blk_alloc ?_ _)); exact BK174.out)) : gb174 ≠ gb175)); have n6_ := Aside0.mk ((by rw [hg]; exact Nat.ne_of_gt (blk_lt (g := gb174) (o := .cells #[.int .i64 a0_0, .int .u64 a0_1] 25 (0, 0)) (by (with_reducible repeat (first | refine blk_drewN ?_ _ | refine blk_drew ?_ | refine blk_alloc ?_ _)); exact BK174.out)) : gb175 ≠ gb174)); clear BK174; clear HB; have BK174 := n0_; have HB := n1_; have BK175 := n2_; have GW175 := n3_; have GE175 := n4_; have NB174_175 := n5_; have NB175_174 := n6_; clear n0_ n1_ n2_ n3_ n4_ n5_ n6_; clear hb hbox hg; have hnb11 := NB174_175.out; have hnc11 := NB175_174.out; have hcz12_0 : w10.cell? ⟨gb174, 0, none⟩ = some (.int .i64 a0_0) := (blk_cell BK174.out 0).trans rfl; have hcz12_1 : w10.cell? ⟨gb174, 1, none⟩ = some (.int .u64 a0_1) := (blk_cell BK174.out 1).trans rfl; have hfz12_0 := blk_frozen BK174.out 0; have hfz12_1 := blk_frozen BK174.out 1; have hcz13_0 : w10.cell? ⟨gb175, 0, none⟩ = some (.bool false) := (blk_cell BK175.out 0).trans rfl; have hcz13_1 : w10.cell? ⟨gb175, 1, none⟩ = some (.int .u64 0) := (blk_cell BK175.out 1).trans rfl; have hcz13_2 : w10.cell? ⟨gb175, 2, none⟩ = some (.int .u64 0) := (blk_cell BK175.out 2).trans rfl; have hcz13_3 : w10.cell? ⟨gb175, 3, none⟩ = some (.int .u64 0) := (blk_cell BK175.out 3).trans rfl; have hcz13_4 : w10.cell? ⟨gb175, 4, none⟩ = some (.int .u64 0) := (blk_cell BK175.out 4).trans rfl; have hfz13_0 := blk_frozen BK175.out 0; have hfz13_1 := blk_frozen BK175.out 1; have hfz13_2 := blk_frozen BK175.out 2; have hfz13_3 := blk_frozen BK175.out 3; have hfz13_4 := blk_frozen BK175.out 4)); try go_wp2_with (first | ((with_reducible refine gate_dst (N := 1) rfl ?_); refine box_event ?hg (N := 1) ?hd (cs := #[.int .i64 a0_0, .int .u64 a0_1]) (t := 25) ?hr ?_; (case hd => rfl); (case hg => rfl); (case hr => first | (go_simp; done) | (go_simp; rfl)); intro gb174 hg w9 hbox hb; have n0_ := Aside0.mk (below_step (by repeat (first | (with_reducible first | exact HB.out | apply below_alloc | apply pw_below_drewN | apply below_drew1) | exact HB.out)) hb); have n1_ := Aside0.mk (hbox); have n2_ := Aside0.mk ((by rw [hg]; exact (below_size (by repeat (first | (with_reducible first | exact HB.out | apply below_alloc | apply pw_below_drewN | apply below_drew1) | exact HB.out))) : w.heap.size ≤ gb174)); have n3_ := Aside0.mk ((by rw [hg]; exact (below_size (by repeat (first | (with_reducible first | exact HB.out | apply below_alloc | apply pw_below_drewN | apply below_drew1) | exact HB.out))) : w.heap.size ≤ gb174)); clear HB; have HB := n0_; have BK174 := n1_; have GW174 := n2_; have GE174 := n3_; clear n0_ n1_ n2_ n3_; clear hb hbox hg) | ((with_reducible refine gate_dst (N := 2) rfl ?_); refine box_event ?hg (N := 2) ?hd (cs := #[.bool false, .int .u64 0, .int .u64 0, .int .u64 0, .int .u64 0]) (t := 31) ?hr ?_; (case hd => rfl); (case hg => rfl); (case hr => first | (go_simp; done) | (go_simp; rfl)); intro gb175 hg w10 hbox hb; have n0_ := Aside0.mk (blk_below (g := gb174) (o := .cells #[.int .i64 a0_0, .int .u64 a0_1] 25 (0, 0)) (by (with_reducible repeat (first | refine blk_drewN ?_ _ | refine blk_drew ?_ | refine blk_alloc ?_ _)); exact BK174.out) hb); have n1_ := Aside0.mk (below_step (by repeat (first | (with_reducible first | exact HB.out | apply below_alloc | apply pw_below_drewN | apply below_drew1 | refine below_set ?_ GE174.out) | exact HB.out)) hb); have n2_ := Aside0.mk (hbox); have n3_ := Aside0.mk ((by rw [hg]; exact (below_size (by repeat (first | (with_reducible first | exact HB.out | apply below_alloc | apply pw_below_drewN | apply below_drew1 | refine below_set ?_ GE174.out) | exact HB.out))) : w.heap.size ≤ gb175)); have n4_ := Aside0.mk ((by rw [hg]; exact (below_size (by repeat (first | (with_reducible first | exact HB.out | apply below_alloc | apply pw_below_drewN | apply below_drew1 | refine below_set ?_ GE174.out) | exact HB.out))) : w.heap.size ≤ gb175)); have n5_ := Aside0.mk ((by rw [hg]; exact Nat.ne_of_lt (blk_lt (g := gb174) (o := .cells #[.int .i64 a0_0, .int .u64 a0_1] 25 (0, 0)) (by (with_reducible repeat (first | refine blk_drewN ?_ _ | refine blk_drew ?_ | refine blk_alloc ?_ _)); exact BK174.out)) : gb174 ≠ gb175)); have n6_ := Aside0.mk ((by rw [hg]; exact Nat.ne_of_gt (blk_lt (g := gb174) (o := .cells #[.int .i64 a0_0, .int .u64 a0_1] 25 (0, 0)) (by (with_reducible repeat (first | refine blk_drewN ?_ _ | refine blk_drew ?_ | refine blk_alloc ?_ _)); exact BK174.out)) : gb175 ≠ gb174)); clear BK174; clear HB; have BK174 := n0_; have HB := n1_; have BK175 := n2_; have GW175 := n3_; have GE175 := n4_; have NB174_175 := n5_; have NB175_174 := n6_; clear n0_ n1_ n2_ n3_ n4_ n5_ n6_; clear hb hbox hg; have hnb11 := NB174_175.out; have hnc11 := NB175_174.out; have hcz12_0 : w10.cell? ⟨gb174, 0, none⟩ = some (.int .i64 a0_0) := (blk_cell BK174.out 0).trans rfl; have hcz12_1 : w10.cell? ⟨gb174, 1, none⟩ = some (.int .u64 a0_1) := (blk_cell BK174.out 1).trans rfl; have hfz12_0 := blk_frozen BK174.out 0; have hfz12_1 := blk_frozen BK174.out 1; have hcz13_0 : w10.cell? ⟨gb175, 0, none⟩ = some (.bool false) := (blk_cell BK175.out 0).trans rfl; have hcz13_1 : w10.cell? ⟨gb175, 1, none⟩ = some (.int .u64 0) := (blk_cell BK175.out 1).trans rfl; have hcz13_2 : w10.cell? ⟨gb175, 2, none⟩ = some (.int .u64 0) := (blk_cell BK175.out 2).trans rfl; have hcz13_3 : w10.cell? ⟨gb175, 3, none⟩ = some (.int .u64 0) := (blk_cell BK175.out 3).trans rfl; have hcz13_4 : w10.cell? ⟨gb175, 4, none⟩ = some (.int .u64 0) := (blk_cell BK175.out 4).trans rfl; have hfz13_0 := blk_frozen BK175.out 0; have hfz13_1 := blk_frozen BK175.out 1; have hfz13_2 := blk_frozen BK175.out 2; have hfz13_3 := blk_frozen BK175.out 3; have hfz13_4 := blk_frozen BK175.out 4)))
      refine bodyPost_ret (results_cell_row rfl _ _ gb175 31 #[.bool true, .int .u64 (IntKind.u64.wrap ((Go.bits .xor .u64 18446744073709551615 a0_1) + 1)), .int .u64 (IntKind.u64.wrap ((Go.bits .xor .u64 18446744073709551615 (IntKind.u64.wrap (a0_0))) + 1)), .int .u64 0, .int .u64 0] (0, 0) _ rfl (by (with_reducible repeat (first | refine blk_drewN ?_ _ | refine blk_drew ?_ | refine blk_alloc ?_ _)); refine blk_put (cs := #[.bool true, .int .u64 (IntKind.u64.wrap ((Go.bits .xor .u64 18446744073709551615 a0_1) + 1)), .int .u64 (IntKind.u64.wrap ((Go.bits .xor .u64 18446744073709551615 (IntKind.u64.wrap (a0_0))) + 1)), .int .u64 0, .int .u64 0]) ?_ 4 _ rfl; (with_reducible repeat (first | refine blk_drewN ?_ _ | refine blk_drew ?_ | refine blk_alloc ?_ _)); refine blk_put (cs := #[.bool true, .int .u64 (IntKind.u64.wrap ((Go.bits .xor .u64 18446744073709551615 a0_1) + 1)), .int .u64 (IntKind.u64.wrap ((Go.bits .xor .u64 18446744073709551615 (IntKind.u64.wrap (a0_0))) + 1)), .int .u64 0, .int .u64 0]) ?_ 3 _ rfl; (with_reducible repeat (first | refine blk_drewN ?_ _ | refine blk_drew ?_ | refine blk_alloc ?_ _)); refine blk_put (cs := #[.bool true, .int .u64 (IntKind.u64.wrap ((Go.bits .xor .u64 18446744073709551615 a0_1) + 1)), .int .u64 0, .int .u64 0, .int .u64 0]) ?_ 2 _ rfl; (with_reducible repeat (first | refine blk_drewN ?_ _ | refine blk_drew ?_ | refine blk_alloc ?_ _)); refine blk_put (cs := #[.bool true, .int .u64 0, .int .u64 0, .int .u64 0, .int .u64 0]) ?_ 1 _ rfl; (with_reducible repeat (first | refine blk_drewN ?_ _ | refine blk_drew ?_ | refine blk_alloc ?_ _)); refine blk_put (cs := #[.bool false, .int .u64 0, .int .u64 0, .int .u64 0, .int .u64 0]) ?_ 0 _ rfl; (with_reducible repeat (first | refine blk_drewN ?_ _ | refine blk_drew ?_ | refine blk_alloc ?_ _)); exact BK175.out) Try.underlying31 rfl (by kernel_rfl)) rfl ?_
      exact ⟨by first | rfl | (simp [errW_none, errW_some] <;> rfl) | (simp [*, errW_none, errW_some] <;> rfl), by repeat (first | (with_reducible first | exact HB.out | apply below_alloc | apply pw_below_drewN | apply below_drew1 | refine below_set ?_ GE174.out | refine below_set ?_ GE175.out) | exact HB.out)⟩
    · rw [if_neg c8] at H
      have c8b0 : ((IntKind.u64.wrap ((Go.bits .xor .u64 18446744073709551615 a0_1) + 1)) == 0) = false := beq_eq_false_iff_ne.mpr c8
      have c8b1 : ((IntKind.u64.wrap ((Go.bits .xor .u64 18446744073709551615 a0_1) + 1)) != 0) = true := bne_iff_ne.mpr c8
      simp only [Option.some.injEq, Prod.mk.injEq] at H
      obtain ⟨rfl, rfl, rfl, rfl, rfl⟩ := H
      go_enter Try.func33, Try.ntmps33
      go_wp2_with (first | ((with_reducible refine gate_dst (N := 1) rfl ?_); refine box_event ?hg (N := 1) ?hd (cs := #[.int .i64 a0_0, .int .u64 a0_1]) (t := 25) ?hr ?_; (case hd => rfl); (case hg => rfl); (case hr => first | (go_simp; done) | (go_simp; rfl)); intro gb174 hg w14 hbox hb; have n0_ := Aside0.mk (below_step (by repeat (first | (with_reducible first | exact HB.out | apply below_alloc | apply pw_below_drewN | apply below_drew1) | exact HB.out)) hb); have n1_ := Aside0.mk (hbox); have n2_ := Aside0.mk ((by rw [hg]; exact (below_size (by repeat (first | (with_reducible first | exact HB.out | apply below_alloc | apply pw_below_drewN | apply below_drew1) | exact HB.out))) : w.heap.size ≤ gb174)); have n3_ := Aside0.mk ((by rw [hg]; exact (below_size (by repeat (first | (with_reducible first | exact HB.out | apply below_alloc | apply pw_below_drewN | apply below_drew1) | exact HB.out))) : w.heap.size ≤ gb174)); clear HB; have HB := n0_; have BK174 := n1_; have GW174 := n2_; have GE174 := n3_; clear n0_ n1_ n2_ n3_; clear hb hbox hg) | ((with_reducible refine gate_dst (N := 2) rfl ?_); refine box_event ?hg (N := 2) ?hd (cs := #[.bool false, .int .u64 0, .int .u64 0, .int .u64 0, .int .u64 0]) (t := 31) ?hr ?_; (case hd => rfl); (case hg => rfl); (case hr => first | (go_simp; done) | (go_simp; rfl)); intro gb175 hg w15 hbox hb; have n0_ := Aside0.mk (blk_below (g := gb174) (o := .cells #[.int .i64 a0_0, .int .u64 a0_1] 25 (0, 0)) (by (with_reducible repeat (first | refine blk_drewN ?_ _ | refine blk_drew ?_ | refine blk_alloc ?_ _)); exact BK174.out) hb); have n1_ := Aside0.mk (below_step (by repeat (first | (with_reducible first | exact HB.out | apply below_alloc | apply pw_below_drewN | apply below_drew1 | refine below_set ?_ GE174.out) | exact HB.out)) hb); have n2_ := Aside0.mk (hbox); have n3_ := Aside0.mk ((by rw [hg]; exact (below_size (by repeat (first | (with_reducible first | exact HB.out | apply below_alloc | apply pw_below_drewN | apply below_drew1 | refine below_set ?_ GE174.out) | exact HB.out))) : w.heap.size ≤ gb175)); have n4_ := Aside0.mk ((by rw [hg]; exact (below_size (by repeat (first | (with_reducible first | exact HB.out | apply below_alloc | apply pw_below_drewN | apply below_drew1 | refine below_set ?_ GE174.out) | exact HB.out))) : w.heap.size ≤ gb175)); have n5_ := Aside0.mk ((by rw [hg]; exact Nat.ne_of_lt (blk_lt (g := gb174) (o := .cells #[.int .i64 a0_0, .int .u64 a0_1] 25 (0, 0)) (by (with_reducible repeat (first | refine blk_drewN ?_ _ | refine blk_drew ?_ | refine blk_alloc ?_ _)); exact BK174.out)) : gb174 ≠ gb175)); have n6_ := Aside0.mk ((by rw [hg]; exact Nat.ne_of_gt (blk_lt (g := gb174) (o := .cells #[.int .i64 a0_0, .int .u64 a0_1] 25 (0, 0)) (by (with_reducible repeat (first | refine blk_drewN ?_ _ | refine blk_drew ?_ | refine blk_alloc ?_ _)); exact BK174.out)) : gb175 ≠ gb174)); clear BK174; clear HB; have BK174 := n0_; have HB := n1_; have BK175 := n2_; have GW175 := n3_; have GE175 := n4_; have NB174_175 := n5_; have NB175_174 := n6_; clear n0_ n1_ n2_ n3_ n4_ n5_ n6_; clear hb hbox hg; have hnb16 := NB174_175.out; have hnc16 := NB175_174.out; have hcz17_0 : w15.cell? ⟨gb174, 0, none⟩ = some (.int .i64 a0_0) := (blk_cell BK174.out 0).trans rfl; have hcz17_1 : w15.cell? ⟨gb174, 1, none⟩ = some (.int .u64 a0_1) := (blk_cell BK174.out 1).trans rfl; have hfz17_0 := blk_frozen BK174.out 0; have hfz17_1 := blk_frozen BK174.out 1; have hcz18_0 : w15.cell? ⟨gb175, 0, none⟩ = some (.bool false) := (blk_cell BK175.out 0).trans rfl; have hcz18_1 : w15.cell? ⟨gb175, 1, none⟩ = some (.int .u64 0) := (blk_cell BK175.out 1).trans rfl; have hcz18_2 : w15.cell? ⟨gb175, 2, none⟩ = some (.int .u64 0) := (blk_cell BK175.out 2).trans rfl; have hcz18_3 : w15.cell? ⟨gb175, 3, none⟩ = some (.int .u64 0) := (blk_cell BK175.out 3).trans rfl; have hcz18_4 : w15.cell? ⟨gb175, 4, none⟩ = some (.int .u64 0) := (blk_cell BK175.out 4).trans rfl; have hfz18_0 := blk_frozen BK175.out 0; have hfz18_1 := blk_frozen BK175.out 1; have hfz18_2 := blk_frozen BK175.out 2; have hfz18_3 := blk_frozen BK175.out 3; have hfz18_4 := blk_frozen BK175.out 4))
      repeat (go_quiet (first | ((with_reducible refine gate_dst (N := 1) rfl ?_); refine box_event ?hg (N := 1) ?hd (cs := #[.int .i64 a0_0, .int .u64 a0_1]) (t := 25) ?hr ?_; (case hd => rfl); (case hg => rfl); (case hr => first | (go_simp; done) | (go_simp; rfl)); intro gb174 hg w14 hbox hb; have n0_ := Aside0.mk (below_step (by repeat (first | (with_reducible first | exact HB.out | apply below_alloc | apply pw_below_drewN | apply below_drew1) | exact HB.out)) hb); have n1_ := Aside0.mk (hbox); have n2_ := Aside0.mk ((by rw [hg]; exact (below_size (by repeat (first | (with_reducible first | exact HB.out | apply below_alloc | apply pw_below_drewN | apply below_drew1) | exact HB.out))) : w.heap.size ≤ gb174)); have n3_ := Aside0.mk ((by rw [hg]; exact (below_size (by repeat (first | (with_reducible first | exact HB.out | apply below_alloc | apply pw_below_drewN | apply below_drew1) | exact HB.out))) : w.heap.size ≤ gb174)); clear HB; have HB := n0_; have BK174 := n1_; have GW174 := n2_; have GE174 := n3_; clear n0_ n1_ n2_ n3_; clear hb hbox hg) | ((with_reducible refine gate_dst (N := 2) rfl ?_); refine box_event ?hg (N := 2) ?hd (cs := #[.bool false, .int .u64 0, .int .u64 0, .int .u64 0, .int .u64 0]) (t := 31) ?hr ?_; (case hd => rfl); (case hg => rfl); (case hr => first | (go_simp; done) | (go_simp; rfl)); intro gb175 hg w15 hbox hb; have n0_ := Aside0.mk (blk_below (g := gb174) (o := .cells #[.int .i64 a0_0, .int .u64 a0_1] 25 (0, 0)) (by (with_reducible repeat (first | refine blk_drewN ?_ _ | refine blk_drew ?_ | refine blk_alloc ?_ _)); exact BK174.out) hb); have n1_ := Aside0.mk (below_step (by repeat (first | (with_reducible first | exact HB.out | apply below_alloc | apply pw_below_drewN | apply below_drew1 | refine below_set ?_ GE174.out) | exact HB.out)) hb); have n2_ := Aside0.mk (hbox); have n3_ := Aside0.mk ((by rw [hg]; exact (below_size (by repeat (first | (with_reducible first | exact HB.out | apply below_alloc | apply pw_below_drewN | apply below_drew1 | refine below_set ?_ GE174.out) | exact HB.out))) : w.heap.size ≤ gb175)); have n4_ := Aside0.mk ((by rw [hg]; exact (below_size (by repeat (first | (with_reducible first | exact HB.out | apply below_alloc | apply pw_below_drewN | apply below_drew1 | refine below_set ?_ GE174.out) | exact HB.out))) : w.heap.size ≤ gb175)); have n5_ := Aside0.mk ((by rw [hg]; exact Nat.ne_of_lt (blk_lt (g := gb174) (o := .cells #[.int .i64 a0_0, .int .u64 a0_1] 25 (0, 0)) (by (with_reducible repeat (first | refine blk_drewN ?_ _ | refine blk_drew ?_ | refine blk_alloc ?_ _)); exact BK174.out)) : gb174 ≠ gb175)); have n6_ := Aside0.mk ((by rw [hg]; exact Nat.ne_of_gt (blk_lt (g := gb174) (o := .cells #[.int .i64 a0_0, .int .u64 a0_1] 25 (0, 0)) (by (with_reducible repeat (first | refine blk_drewN ?_ _ | refine blk_drew ?_ | refine blk_alloc ?_ _)); exact BK174.out)) : gb175 ≠ gb174)); clear BK174; clear HB; have BK174 := n0_; have HB := n1_; have BK175 := n2_; have GW175 := n3_; have GE175 := n4_; have NB174_175 := n5_; have NB175_174 := n6_; clear n0_ n1_ n2_ n3_ n4_ n5_ n6_; clear hb hbox hg; have hnb16 := NB174_175.out; have hnc16 := NB175_174.out; have hcz17_0 : w15.cell? ⟨gb174, 0, none⟩ = some (.int .i64 a0_0) := (blk_cell BK174.out 0).trans rfl; have hcz17_1 : w15.cell? ⟨gb174, 1, none⟩ = some (.int .u64 a0_1) := (blk_cell BK174.out 1).trans rfl; have hfz17_0 := blk_frozen BK174.out 0; have hfz17_1 := blk_frozen BK174.out 1; have hcz18_0 : w15.cell? ⟨gb175, 0, none⟩ = some (.bool false) := (blk_cell BK175.out 0).trans rfl; have hcz18_1 : w15.cell? ⟨gb175, 1, none⟩ = some (.int .u64 0) := (blk_cell BK175.out 1).trans rfl; have hcz18_2 : w15.cell? ⟨gb175, 2, none⟩ = some (.int .u64 0) := (blk_cell BK175.out 2).trans rfl; have hcz18_3 : w15.cell? ⟨gb175, 3, none⟩ = some (.int .u64 0) := (blk_cell BK175.out 3).trans rfl; have hcz18_4 : w15.cell? ⟨gb175, 4, none⟩ = some (.int .u64 0) := (blk_cell BK175.out 4).trans rfl; have hfz18_0 := blk_frozen BK175.out 0; have hfz18_1 := blk_frozen BK175.out 1; have hfz18_2 := blk_frozen BK175.out 2; have hfz18_3 := blk_frozen BK175.out 3; have hfz18_4 := blk_frozen BK175.out 4)); try go_wp2_with (first | ((with_reducible refine gate_dst (N := 1) rfl ?_); refine box_event ?hg (N := 1) ?hd (cs := #[.int .i64 a0_0, .int .u64 a0_1]) (t := 25) ?hr ?_; (case hd => rfl); (case hg => rfl); (case hr => first | (go_simp; done) | (go_simp; rfl)); intro gb174 hg w14 hbox hb; have n0_ := Aside0.mk (below_step (by repeat (first | (with_reducible first | exact HB.out | apply below_alloc | apply pw_below_drewN | apply below_drew1) | exact HB.out)) hb); have n1_ := Aside0.mk (hbox); have n2_ := Aside0.mk ((by rw [hg]; exact (below_size (by repeat (first | (with_reducible first | exact HB.out | apply below_alloc | apply pw_below_drewN | apply below_drew1) | exact HB.out))) : w.heap.size ≤ gb174)); have n3_ := Aside0.mk ((by rw [hg]; exact (below_size (by repeat (first | (with_reducible first | exact HB.out | apply below_alloc | apply pw_below_drewN | apply below_drew1) | exact HB.out))) : w.heap.size ≤ gb174)); clear HB; have HB := n0_; have BK174 := n1_; have GW174 := n2_; have GE174 := n3_; clear n0_ n1_ n2_ n3_; clear hb hbox hg) | ((with_reducible refine gate_dst (N := 2) rfl ?_); refine box_event ?hg (N := 2) ?hd (cs := #[.bool false, .int .u64 0, .int .u64 0, .int .u64 0, .int .u64 0]) (t := 31) ?hr ?_; (case hd => rfl); (case hg => rfl); (case hr => first | (go_simp; done) | (go_simp; rfl)); intro gb175 hg w15 hbox hb; have n0_ := Aside0.mk (blk_below (g := gb174) (o := .cells #[.int .i64 a0_0, .int .u64 a0_1] 25 (0, 0)) (by (with_reducible repeat (first | refine blk_drewN ?_ _ | refine blk_drew ?_ | refine blk_alloc ?_ _)); exact BK174.out) hb); have n1_ := Aside0.mk (below_step (by repeat (first | (with_reducible first | exact HB.out | apply below_alloc | apply pw_below_drewN | apply below_drew1 | refine below_set ?_ GE174.out) | exact HB.out)) hb); have n2_ := Aside0.mk (hbox); have n3_ := Aside0.mk ((by rw [hg]; exact (below_size (by repeat (first | (with_reducible first | exact HB.out | apply below_alloc | apply pw_below_drewN | apply below_drew1 | refine below_set ?_ GE174.out) | exact HB.out))) : w.heap.size ≤ gb175)); have n4_ := Aside0.mk ((by rw [hg]; exact (below_size (by repeat (first | (with_reducible first | exact HB.out | apply below_alloc | apply pw_below_drewN | apply below_drew1 | refine below_set ?_ GE174.out) | exact HB.out))) : w.heap.size ≤ gb175)); have n5_ := Aside0.mk ((by rw [hg]; exact Nat.ne_of_lt (blk_lt (g := gb174) (o := .cells #[.int .i64 a0_0, .int .u64 a0_1] 25 (0, 0)) (by (with_reducible repeat (first | refine blk_drewN ?_ _ | refine blk_drew ?_ | refine blk_alloc ?_ _)); exact BK174.out)) : gb174 ≠ gb175)); have n6_ := Aside0.mk ((by rw [hg]; exact Nat.ne_of_gt (blk_lt (g := gb174) (o := .cells #[.int .i64 a0_0, .int .u64 a0_1] 25 (0, 0)) (by (with_reducible repeat (first | refine blk_drewN ?_ _ | refine blk_drew ?_ | refine blk_alloc ?_ _)); exact BK174.out)) : gb175 ≠ gb174)); clear BK174; clear HB; have BK174 := n0_; have HB := n1_; have BK175 := n2_; have GW175 := n3_; have GE175 := n4_; have NB174_175 := n5_; have NB175_174 := n6_; clear n0_ n1_ n2_ n3_ n4_ n5_ n6_; clear hb hbox hg; have hnb16 := NB174_175.out; have hnc16 := NB175_174.out; have hcz17_0 : w15.cell? ⟨gb174, 0, none⟩ = some (.int .i64 a0_0) := (blk_cell BK174.out 0).trans rfl; have hcz17_1 : w15.cell? ⟨gb174, 1, none⟩ = some (.int .u64 a0_1) := (blk_cell BK174.out 1).trans rfl; have hfz17_0 := blk_frozen BK174.out 0; have hfz17_1 := blk_frozen BK174.out 1; have hcz18_0 : w15.cell? ⟨gb175, 0, none⟩ = some (.bool false) := (blk_cell BK175.out 0).trans rfl; have hcz18_1 : w15.cell? ⟨gb175, 1, none⟩ = some (.int .u64 0) := (blk_cell BK175.out 1).trans rfl; have hcz18_2 : w15.cell? ⟨gb175, 2, none⟩ = some (.int .u64 0) := (blk_cell BK175.out 2).trans rfl; have hcz18_3 : w15.cell? ⟨gb175, 3, none⟩ = some (.int .u64 0) := (blk_cell BK175.out 3).trans rfl; have hcz18_4 : w15.cell? ⟨gb175, 4, none⟩ = some (.int .u64 0) := (blk_cell BK175.out 4).trans rfl; have hfz18_0 := blk_frozen BK175.out 0; have hfz18_1 := blk_frozen BK175.out 1; have hfz18_2 := blk_frozen BK175.out 2; have hfz18_3 := blk_frozen BK175.out 3; have hfz18_4 := blk_frozen BK175.out 4)))
      refine bodyPost_ret (results_cell_row rfl _ _ gb175 31 #[.bool true, .int .u64 (IntKind.u64.wrap ((Go.bits .xor .u64 18446744073709551615 a0_1) + 1)), .int .u64 (Go.bits .xor .u64 18446744073709551615 (IntKind.u64.wrap (a0_0))), .int .u64 0, .int .u64 0] (0, 0) _ rfl (by (with_reducible repeat (first | refine blk_drewN ?_ _ | refine blk_drew ?_ | refine blk_alloc ?_ _)); refine blk_put (cs := #[.bool true, .int .u64 (IntKind.u64.wrap ((Go.bits .xor .u64 18446744073709551615 a0_1) + 1)), .int .u64 (Go.bits .xor .u64 18446744073709551615 (IntKind.u64.wrap (a0_0))), .int .u64 0, .int .u64 0]) ?_ 4 _ rfl; (with_reducible repeat (first | refine blk_drewN ?_ _ | refine blk_drew ?_ | refine blk_alloc ?_ _)); refine blk_put (cs := #[.bool true, .int .u64 (IntKind.u64.wrap ((Go.bits .xor .u64 18446744073709551615 a0_1) + 1)), .int .u64 (Go.bits .xor .u64 18446744073709551615 (IntKind.u64.wrap (a0_0))), .int .u64 0, .int .u64 0]) ?_ 3 _ rfl; (with_reducible repeat (first | refine blk_drewN ?_ _ | refine blk_drew ?_ | refine blk_alloc ?_ _)); refine blk_put (cs := #[.bool true, .int .u64 (IntKind.u64.wrap ((Go.bits .xor .u64 18446744073709551615 a0_1) + 1)), .int .u64 0, .int .u64 0, .int .u64 0]) ?_ 2 _ rfl; (with_reducible repeat (first | refine blk_drewN ?_ _ | refine blk_drew ?_ | refine blk_alloc ?_ _)); refine blk_put (cs := #[.bool true, .int .u64 0, .int .u64 0, .int .u64 0, .int .u64 0]) ?_ 1 _ rfl; (with_reducible repeat (first | refine blk_drewN ?_ _ | refine blk_drew ?_ | refine blk_alloc ?_ _)); refine blk_put (cs := #[.bool false, .int .u64 0, .int .u64 0, .int .u64 0, .int .u64 0]) ?_ 0 _ rfl; (with_reducible repeat (first | refine blk_drewN ?_ _ | refine blk_drew ?_ | refine blk_alloc ?_ _)); exact BK175.out) Try.underlying31 rfl (by kernel_rfl)) rfl ?_
      exact ⟨by first | rfl | (simp [errW_none, errW_some] <;> rfl) | (simp [*, errW_none, errW_some] <;> rfl), by repeat (first | (with_reducible first | exact HB.out | apply below_alloc | apply pw_below_drewN | apply below_drew1 | refine below_set ?_ GE174.out | refine below_set ?_ GE175.out) | exact HB.out)⟩

/-! ### carouselref1_WAdd: function 28 -/
def carouselref1_WAdd.f (a0_0 : Int) (a0_1 : Int) (a1_0 : Int) (a1_1 : Int) : Option (Int × Int) := (carouselref1_Num.f a0_0 a0_1).bind fun bt179 => ((carouselref1_Num.f a1_0 a1_1).bind fun bt184 => ((carouselref1_Plus.f bt179.1 bt179.2.1 bt179.2.2.1 bt179.2.2.2.1 bt179.2.2.2.2 bt184.1 bt184.2.1 bt184.2.2.1 bt184.2.2.2.1 bt184.2.2.2.2).bind fun bt189 => ((carouselref1_Wide.f bt189.1 bt189.2.1 bt189.2.2.1 bt189.2.2.2.1 bt189.2.2.2.2).bind fun bt194 => (some (bt194.1, bt194.2)))))
set_option maxHeartbeats 8000000 in
set_option maxRecDepth 100000 in
theorem carouselref1_WAdd.calls (a0_0 : Int) (a0_1 : Int) (a1_0 : Int) (a1_1 : Int) (r1 : Int) (r2 : Int) (w : World) (h : carouselref1_WAdd.f a0_0 a0_1 a1_0 a1_1 = some (r1, r2)) :
    Calls Try.prog 28 #[.agg #[.int .i64 a0_0, .int .u64 a0_1], .agg #[.int .i64 a1_0, .int .u64 a1_1]] w fun e w' => e = .returned (.agg #[.int .i64 r1, .int .u64 r2]) ∧ Below w.heap.size w w' := by
  have hu25 := Try.underlying25
  have HB := Aside0.mk (Below.refl w.heap.size w)
  have H : ((carouselref1_Num.f a0_0 a0_1).bind fun bt179 => ((carouselref1_Num.f a1_0 a1_1).bind fun bt184 => ((carouselref1_Plus.f bt179.1 bt179.2.1 bt179.2.2.1 bt179.2.2.2.1 bt179.2.2.2.2 bt184.1 bt184.2.1 bt184.2.2.1 bt184.2.2.2.1 bt184.2.2.2.2).bind fun bt189 => ((carouselref1_Wide.f bt189.1 bt189.2.1 bt189.2.2.1 bt189.2.2.2.1 bt189.2.2.2.2).bind fun bt194 => (some (bt194.1, bt194.2)))))) = some (r1, r2) := h
  clear h
  replace H := Option.bind_eq_some_iff.mp H
  obtain ⟨⟨t179, t180, t181, t182, t183⟩, A30, H⟩ := H
  replace H : ((carouselref1_Num.f a1_0 a1_1).bind fun bt184 => ((carouselref1_Plus.f t179 t180 t181 t182 t183 bt184.1 bt184.2.1 bt184.2.2.1 bt184.2.2.2.1 bt184.2.2.2.2).bind fun bt189 => ((carouselref1_Wide.f bt189.1 bt189.2.1 bt189.2.2.1 bt189.2.2.2.1 bt189.2.2.2.2).bind fun bt194 => (some (bt194.1, bt194.2))))) = some (r1, r2) := H
  have A3 := Aside0.mk A30
  clear A30
  replace H := Option.bind_eq_some_iff.mp H
  obtain ⟨⟨t184, t185, t186, t187, t188⟩, A40, H⟩ := H
  replace H : ((carouselref1_Plus.f t179 t180 t181 t182 t183 t184 t185 t186 t187 t188).bind fun bt189 => ((carouselref1_Wide.f bt189.1 bt189.2.1 bt189.2.2.1 bt189.2.2.2.1 bt189.2.2.2.2).bind fun bt194 => (some (bt194.1, bt194.2)))) = some (r1, r2) := H
  have A4 := Aside0.mk A40
  clear A40
  replace H := Option.bind_eq_some_iff.mp H
  obtain ⟨⟨t189, t190, t191, t192, t193⟩, A50, H⟩ := H
  replace H : ((carouselref1_Wide.f t189 t190 t191 t192 t193).bind fun bt194 => (some (bt194.1, bt194.2))) = some (r1, r2) := H
  have A5 := Aside0.mk A50
  clear A50
  replace H := Option.bind_eq_some_iff.mp H
  obtain ⟨⟨t194, t195⟩, A60, H⟩ := H
  replace H : (some (t194, t195)) = some (r1, r2) := H
  have A6 := Aside0.mk A60
  clear A60
  simp only [Option.some.injEq, Prod.mk.injEq] at H
  obtain ⟨rfl, rfl⟩ := H
  go_enter Try.func28, Try.ntmps28
  try go_wp2_with (first | ((with_reducible refine gate_dst (N := 2) rfl ?_); refine box_event ?hg (N := 2) ?hd (cs := #[.int .i64 a0_0, .int .u64 a0_1]) (t := 25) ?hr ?_; (case hd => rfl); (case hg => rfl); (case hr => first | (go_simp; done) | (go_simp; rfl)); intro gb176 hg w7 hbox hb; have n0_ := Aside0.mk (below_step (by repeat (first | (with_reducible first | exact HB.out | apply below_alloc | apply pw_below_drewN | apply below_drew1) | exact HB.out)) hb); have n1_ := Aside0.mk (hbox); have n2_ := Aside0.mk ((by rw [hg]; exact (below_size (by repeat (first | (with_reducible first | exact HB.out | apply below_alloc | apply pw_below_drewN | apply below_drew1) | exact HB.out))) : w.heap.size ≤ gb176)); have n3_ := Aside0.mk ((by rw [hg]; exact (below_size (by repeat (first | (with_reducible first | exact HB.out | apply below_alloc | apply pw_below_drewN | apply below_drew1) | exact HB.out))) : w.heap.size ≤ gb176)); clear HB; have HB := n0_; have BK176 := n1_; have GW176 := n2_; have GE176 := n3_; clear n0_ n1_ n2_ n3_; clear hb hbox hg) | ((with_reducible refine gate_dst (N := 3) rfl ?_); refine box_event ?hg (N := 3) ?hd (cs := #[.int .i64 a1_0, .int .u64 a1_1]) (t := 25) ?hr ?_; (case hd => rfl); (case hg => rfl); (case hr => first | (go_simp; done) | (go_simp; rfl)); intro gb177 hg w8 hbox hb; have n0_ := Aside0.mk (blk_below (g := gb176) (o := .cells #[.int .i64 a0_0, .int .u64 a0_1] 25 (0, 0)) (by (with_reducible repeat (first | refine blk_drewN ?_ _ | refine blk_drew ?_ | refine blk_alloc ?_ _)); exact BK176.out) hb); have n1_ := Aside0.mk (below_step (by repeat (first | (with_reducible first | exact HB.out | apply below_alloc | apply pw_below_drewN | apply below_drew1 | refine below_set ?_ GE176.out) | exact HB.out)) hb); have n2_ := Aside0.mk (hbox); have n3_ := Aside0.mk ((by rw [hg]; exact (below_size (by repeat (first | (with_reducible first | exact HB.out | apply below_alloc | apply pw_below_drewN | apply below_drew1 | refine below_set ?_ GE176.out) | exact HB.out))) : w.heap.size ≤ gb177)); have n4_ := Aside0.mk ((by rw [hg]; exact (below_size (by repeat (first | (with_reducible first | exact HB.out | apply below_alloc | apply pw_below_drewN | apply below_drew1 | refine below_set ?_ GE176.out) | exact HB.out))) : w.heap.size ≤ gb177)); have n5_ := Aside0.mk ((by rw [hg]; exact Nat.ne_of_lt (blk_lt (g := gb176) (o := .cells #[.int .i64 a0_0, .int .u64 a0_1] 25 (0, 0)) (by (with_reducible repeat (first | refine blk_drewN ?_ _ | refine blk_drew ?_ | refine blk_alloc ?_ _)); exact BK176.out)) : gb176 ≠ gb177)); have n6_ := Aside0.mk ((by rw [hg]; exact Nat.ne_of_gt (blk_lt (g := gb176) (o := .cells #[.int .i64 a0_0, .int .u64 a0_1] 25 (0, 0)) (by (with_reducible repeat (first | refine blk_drewN ?_ _ | refine blk_drew ?_ | refine blk_alloc ?_ _)); exact BK176.out)) : gb177 ≠ gb176)); clear BK176; clear HB; have BK176 := n0_; have HB := n1_; have BK177 := n2_; have GW177 := n3_; have GE177 := n4_; have NB176_177 := n5_; have NB177_176 := n6_; clear n0_ n1_ n2_ n3_ n4_ n5_ n6_; clear hb hbox hg) | ((with_reducible refine gate_dst (N := 4) rfl ?_); refine box_event ?hg (N := 4) ?hd (cs := #[.int .i64 0, .int .u64 0]) (t := 25) ?hr ?_; (case hd => rfl); (case hg => rfl); (case hr => first | (go_simp; done) | (go_simp; rfl)); intro gb178 hg w9 hbox hb; have n0_ := Aside0.mk (blk_below (g := gb176) (o := .cells #[.int .i64 a0_0, .int .u64 a0_1] 25 (0, 0)) (by (with_reducible repeat (first | refine blk_drewN ?_ _ | refine blk_drew ?_ | refine blk_alloc ?_ _)); exact BK176.out) hb); have n1_ := Aside0.mk (blk_below (g := gb177) (o := .cells #[.int .i64 a1_0, .int .u64 a1_1] 25 (0, 0)) (by (with_reducible repeat (first | refine blk_drewN ?_ _ | refine blk_drew ?_ | refine blk_alloc ?_ _)); exact BK177.out) hb); have n2_ := Aside0.mk (below_step (by repeat (first | (with_reducible first | exact HB.out | apply below_alloc | apply pw_below_drewN | apply below_drew1 | refine below_set ?_ GE176.out | refine below_set ?_ GE177.out) | exact HB.out)) hb); have n3_ := Aside0.mk (hbox); have n4_ := Aside0.mk ((by rw [hg]; exact (below_size (by repeat (first | (with_reducible first | exact HB.out | apply below_alloc | apply pw_below_drewN | apply below_drew1 | refine below_set ?_ GE176.out | refine below_set ?_ GE177.out) | exact HB.out))) : w.heap.size ≤ gb178)); have n5_ := Aside0.mk ((by rw [hg]; exact (below_size (by repeat (first | (with_reducible first | exact HB.out | apply below_alloc | apply pw_below_drewN | apply below_drew1 | refine below_set ?_ GE176.out | refine below_set ?_ GE177.out) | exact HB.out))) : w.heap.size ≤ gb178)); have n6_ := Aside0.mk ((by rw [hg]; exact Nat.ne_of_lt (blk_lt (g := gb176) (o := .cells #[.int .i64 a0_0, .int .u64 a0_1] 25 (0, 0)) (by (with_reducible repeat (first | refine blk_drewN ?_ _ | refine blk_drew ?_ | refine blk_alloc ?_ _)); exact BK176.out)) : gb176 ≠ gb178)); have n7_ := Aside0.mk ((by rw [hg]; exact Nat.ne_of_gt (blk_lt (g := gb176) (o := .cells #[.int .i64 a0_0, .int .u64 a0_1] 25 (0, 0)) (by (with_reducible repeat (first | refine blk_drewN ?_ _ | refine blk_drew ?_ | refine blk_alloc ?_ _)); exact BK176.out)) : gb178 ≠ gb176)); have n8_ := Aside0.mk ((by rw [hg]; exact Nat.ne_of_lt (blk_lt (g := gb177) (o := .cells #[.int .i64 a1_0, .int .u64 a1_1] 25 (0, 0)) (by (with_reducible repeat (first | refine blk_drewN ?_ _ | refine blk_drew ?_ | refine blk_alloc ?_ _)); exact BK177.out)) : gb177 ≠ gb178)); have n9_ := Aside0.mk ((by rw [hg]; exact Nat.ne_of_gt (blk_lt (g := gb177) (o := .cells #[.int .i64 a1_0, .int .u64 a1_1] 25 (0, 0)) (by (with_reducible repeat (first | refine blk_drewN ?_ _ | refine blk_drew ?_ | refine blk_alloc ?_ _)); exact BK177.out)) : gb178 ≠ gb177)); clear BK176; clear BK177; clear HB; have BK176 := n0_; have BK177 := n1_; have HB := n2_; have BK178 := n3_; have GW178 := n4_; have GE178 := n5_; have NB176_178 := n6_; have NB178_176 := n7_; have NB177_178 := n8_; have NB178_177 := n9_; clear n0_ n1_ n2_ n3_ n4_ n5_ n6_ n7_ n8_ n9_; clear hb hbox hg))
  have n0_ := Aside0.mk (blk_drew BK176.out)
  have n1_ := Aside0.mk (blk_drew BK177.out)
  have n2_ := Aside0.mk (blk_drew BK178.out)
  have n3_ := Aside0.mk (below_drew1 HB.out)
  clear BK176
  clear BK177
  clear BK178
  clear HB
  have BK176 := n0_
  have BK177 := n1_
  have BK178 := n2_
  have HB := n3_
  clear n0_ n1_ n2_ n3_
  refine start_ (n := 7) (S := fun w' => w'.cell? ⟨gb176, 0, none⟩ = some (.int .i64 a0_0) ∧ w'.cell? ⟨gb176, 1, none⟩ = some (.int .u64 a0_1) ∧ w'.cell? ⟨gb177, 0, none⟩ = some (.int .i64 a1_0) ∧ w'.cell? ⟨gb177, 1, none⟩ = some (.int .u64 a1_1)) (ds := []) #[false, false, false, false, false, false, false] (by kernel_rfl) rfl rfl ⟨(blk_cell BK176.out 0).trans rfl, (blk_cell BK176.out 1).trans rfl, (blk_cell BK177.out 0).trans rfl, (blk_cell BK177.out 1).trans rfl⟩ (fun hHeld => ?_)
  generalize w9.drew = w10 at BK176 BK177 BK178 HB hHeld ⊢
  refine take_ (i := 0) (N := some 5) (v := ?_) (a' := ?_) #[true, false, false, false, false, false, false] rfl rfl (by kernel_rfl) (fun _ _ _ h => h) (Or.inl ⟨by rfl, ?_⟩) hHeld ?_ ?_
  rotate_left
  · rintro w' ⟨s0, s1, s2, s3⟩
    go_simp
    with_reducible rfl
  rotate_left
  · simp only [Act.put, List.setIfInBounds_toArray, List.set_cons_zero, List.set_cons_succ, i64_w, i32_w]
    rfl
  refine take_ (i := 2) (N := some 7) (v := ?_) (a' := ?_) #[true, false, true, false, false, false, false] rfl rfl (by kernel_rfl) (fun _ _ _ h => h) (Or.inl ⟨by rfl, ?_⟩) hHeld ?_ ?_
  rotate_left
  · rintro w' ⟨s0, s1, s2, s3⟩
    go_simp
    with_reducible rfl
  rotate_left
  · simp only [Act.put, List.setIfInBounds_toArray, List.set_cons_zero, List.set_cons_succ, i64_w, i32_w]
    rfl
  refine one_ (i := 1) (N := some 6) #[true, true, true, false, false, false, false] rfl rfl (by kernel_rfl) (by decide) (fun K hK => ?_)
  refine goes_ Try.func33 (by kernel_rfl) rfl #[.agg #[.int .i64 a0_0, .int .u64 a0_1]] (by rfl) rfl rfl (by (try simp only [List.map_toArray, List.map_cons, List.map_nil]); first | done | rfl | (simp only [List.length_drop, List.length_take]; rfl)) ?_
  with_reducible refine (carouselref1_Num.calls a0_0 a0_1 t179 t180 t181 t182 t183 _ A3.out).mono ?_
  rintro e w11 ⟨rfl, hb⟩
  refine ⟨_, rfl, ?_⟩
  have n0_ := Aside0.mk (blk_below (g := gb176) (o := .cells #[.int .i64 a0_0, .int .u64 a0_1] 25 (0, 0)) (by (with_reducible repeat (first | refine blk_drewN ?_ _ | refine blk_drew ?_ | refine blk_alloc ?_ _)); exact BK176.out) hb)
  have n1_ := Aside0.mk (blk_below (g := gb177) (o := .cells #[.int .i64 a1_0, .int .u64 a1_1] 25 (0, 0)) (by (with_reducible repeat (first | refine blk_drewN ?_ _ | refine blk_drew ?_ | refine blk_alloc ?_ _)); exact BK177.out) hb)
  have n2_ := Aside0.mk (blk_below (g := gb178) (o := .cells #[.int .i64 0, .int .u64 0] 25 (0, 0)) (by (with_reducible repeat (first | refine blk_drewN ?_ _ | refine blk_drew ?_ | refine blk_alloc ?_ _)); exact BK178.out) hb)
  have n3_ := Aside0.mk (below_step (by repeat (first | (with_reducible first | exact HB.out | apply below_alloc | apply pw_below_drewN | apply below_drew1 | refine below_set ?_ GE176.out | refine below_set ?_ GE177.out | refine below_set ?_ GE178.out) | exact HB.out)) hb)
  clear BK176
  clear BK177
  clear BK178
  clear HB
  have BK176 := n0_
  have BK177 := n1_
  have BK178 := n2_
  have HB := n3_
  clear n0_ n1_ n2_ n3_
  (try clear hb)
  (try clear hb2)
  (try clear hk)
  (try clear hi)
  refine hK.out _ _ ⟨(blk_cell BK176.out 0).trans rfl, (blk_cell BK176.out 1).trans rfl, (blk_cell BK177.out 0).trans rfl, (blk_cell BK177.out 1).trans rfl⟩ (fun hHeld => ?_)
  clear hK K
  refine norm_ (a' := ?_) ?_ ?_
  rotate_left
  · show Act.put _ (some 6) _ = _
    simp only [Act.put, List.setIfInBounds_toArray, List.set_cons_zero, List.set_cons_succ, i64_w, i32_w]
    rfl
  refine one_ (i := 3) (N := some 8) #[true, true, true, true, false, false, false] rfl rfl (by kernel_rfl) (by decide) (fun K hK => ?_)
  refine goes_ Try.func33 (by kernel_rfl) rfl #[.agg #[.int .i64 a1_0, .int .u64 a1_1]] (by rfl) rfl rfl (by (try simp only [List.map_toArray, List.map_cons, List.map_nil]); first | done | rfl | (simp only [List.length_drop, List.length_take]; rfl)) ?_
  with_reducible refine (carouselref1_Num.calls a1_0 a1_1 t184 t185 t186 t187 t188 _ A4.out).mono ?_
  rintro e w12 ⟨rfl, hb⟩
  refine ⟨_, rfl, ?_⟩
  have n0_ := Aside0.mk (blk_below (g := gb176) (o := .cells #[.int .i64 a0_0, .int .u64 a0_1] 25 (0, 0)) (by (with_reducible repeat (first | refine blk_drewN ?_ _ | refine blk_drew ?_ | refine blk_alloc ?_ _)); exact BK176.out) hb)
  have n1_ := Aside0.mk (blk_below (g := gb177) (o := .cells #[.int .i64 a1_0, .int .u64 a1_1] 25 (0, 0)) (by (with_reducible repeat (first | refine blk_drewN ?_ _ | refine blk_drew ?_ | refine blk_alloc ?_ _)); exact BK177.out) hb)
  have n2_ := Aside0.mk (blk_below (g := gb178) (o := .cells #[.int .i64 0, .int .u64 0] 25 (0, 0)) (by (with_reducible repeat (first | refine blk_drewN ?_ _ | refine blk_drew ?_ | refine blk_alloc ?_ _)); exact BK178.out) hb)
  have n3_ := Aside0.mk (below_step (by repeat (first | (with_reducible first | exact HB.out | apply below_alloc | apply pw_below_drewN | apply below_drew1 | refine below_set ?_ GE176.out | refine below_set ?_ GE177.out | refine below_set ?_ GE178.out) | exact HB.out)) hb)
  clear BK176
  clear BK177
  clear BK178
  clear HB
  have BK176 := n0_
  have BK177 := n1_
  have BK178 := n2_
  have HB := n3_
  clear n0_ n1_ n2_ n3_
  (try clear hb)
  (try clear hb2)
  (try clear hk)
  (try clear hi)
  refine hK.out _ _ ⟨(blk_cell BK176.out 0).trans rfl, (blk_cell BK176.out 1).trans rfl, (blk_cell BK177.out 0).trans rfl, (blk_cell BK177.out 1).trans rfl⟩ (fun hHeld => ?_)
  clear hK K
  refine norm_ (a' := ?_) ?_ ?_
  rotate_left
  · show Act.put _ (some 8) _ = _
    simp only [Act.put, List.setIfInBounds_toArray, List.set_cons_zero, List.set_cons_succ, i64_w, i32_w]
    rfl
  refine one_ (i := 4) (N := some 9) #[true, true, true, true, true, false, false] rfl rfl (by kernel_rfl) (by decide) (fun K hK => ?_)
  refine goes_ Try.func20 (by kernel_rfl) rfl #[.agg #[.bool t179, .int .u64 t180, .int .u64 t181, .int .u64 t182, .int .u64 t183], .agg #[.bool t184, .int .u64 t185, .int .u64 t186, .int .u64 t187, .int .u64 t188]] (by rfl) rfl rfl (by (try simp only [List.map_toArray, List.map_cons, List.map_nil]); first | done | rfl | (simp only [List.length_drop, List.length_take]; rfl)) ?_
  with_reducible refine (carouselref1_Plus.calls t179 t180 t181 t182 t183 t184 t185 t186 t187 t188 t189 t190 t191 t192 t193 _ A5.out).mono ?_
  rintro e w13 ⟨rfl, hb⟩
  refine ⟨_, rfl, ?_⟩
  have n0_ := Aside0.mk (blk_below (g := gb176) (o := .cells #[.int .i64 a0_0, .int .u64 a0_1] 25 (0, 0)) (by (with_reducible repeat (first | refine blk_drewN ?_ _ | refine blk_drew ?_ | refine blk_alloc ?_ _)); exact BK176.out) hb)
  have n1_ := Aside0.mk (blk_below (g := gb177) (o := .cells #[.int .i64 a1_0, .int .u64 a1_1] 25 (0, 0)) (by (with_reducible repeat (first | refine blk_drewN ?_ _ | refine blk_drew ?_ | refine blk_alloc ?_ _)); exact BK177.out) hb)
  have n2_ := Aside0.mk (blk_below (g := gb178) (o := .cells #[.int .i64 0, .int .u64 0] 25 (0, 0)) (by (with_reducible repeat (first | refine blk_drewN ?_ _ | refine blk_drew ?_ | refine blk_alloc ?_ _)); exact BK178.out) hb)
  have n3_ := Aside0.mk (below_step (by repeat (first | (with_reducible first | exact HB.out | apply below_alloc | apply pw_below_drewN | apply below_drew1 | refine below_set ?_ GE176.out | refine below_set ?_ GE177.out | refine below_set ?_ GE178.out) | exact HB.out)) hb)
  clear BK176
  clear BK177
  clear BK178
  clear HB
  have BK176 := n0_
  have BK177 := n1_
  have BK178 := n2_
  have HB := n3_
  clear n0_ n1_ n2_ n3_
  (try clear hb)
  (try clear hb2)
  (try clear hk)
  (try clear hi)
  refine hK.out _ _ ⟨(blk_cell BK176.out 0).trans rfl, (blk_cell BK176.out 1).trans rfl, (blk_cell BK177.out 0).trans rfl, (blk_cell BK177.out 1).trans rfl⟩ (fun hHeld => ?_)
  clear hK K
  refine norm_ (a' := ?_) ?_ ?_
  rotate_left
  · show Act.put _ (some 9) _ = _
    simp only [Act.put, List.setIfInBounds_toArray, List.set_cons_zero, List.set_cons_succ, i64_w, i32_w]
    rfl
  refine one_ (i := 5) (N := some 10) #[true, true, true, true, true, true, false] rfl rfl (by kernel_rfl) (by decide) (fun K hK => ?_)
  refine goes_ Try.func15 (by kernel_rfl) rfl #[.agg #[.bool t189, .int .u64 t190, .int .u64 t191, .int .u64 t192, .int .u64 t193]] (by rfl) rfl rfl (by (try simp only [List.map_toArray, List.map_cons, List.map_nil]); first | done | rfl | (simp only [List.length_drop, List.length_take]; rfl)) ?_
  with_reducible refine (carouselref1_Wide.calls t189 t190 t191 t192 t193 t194 t195 _ A6.out).mono ?_
  rintro e w14 ⟨rfl, hb⟩
  refine ⟨_, rfl, ?_⟩
  have n0_ := Aside0.mk (blk_below (g := gb176) (o := .cells #[.int .i64 a0_0, .int .u64 a0_1] 25 (0, 0)) (by (with_reducible repeat (first | refine blk_drewN ?_ _ | refine blk_drew ?_ | refine blk_alloc ?_ _)); exact BK176.out) hb)
  have n1_ := Aside0.mk (blk_below (g := gb177) (o := .cells #[.int .i64 a1_0, .int .u64 a1_1] 25 (0, 0)) (by (with_reducible repeat (first | refine blk_drewN ?_ _ | refine blk_drew ?_ | refine blk_alloc ?_ _)); exact BK177.out) hb)
  have n2_ := Aside0.mk (blk_below (g := gb178) (o := .cells #[.int .i64 0, .int .u64 0] 25 (0, 0)) (by (with_reducible repeat (first | refine blk_drewN ?_ _ | refine blk_drew ?_ | refine blk_alloc ?_ _)); exact BK178.out) hb)
  have n3_ := Aside0.mk (below_step (by repeat (first | (with_reducible first | exact HB.out | apply below_alloc | apply pw_below_drewN | apply below_drew1 | refine below_set ?_ GE176.out | refine below_set ?_ GE177.out | refine below_set ?_ GE178.out) | exact HB.out)) hb)
  clear BK176
  clear BK177
  clear BK178
  clear HB
  have BK176 := n0_
  have BK177 := n1_
  have BK178 := n2_
  have HB := n3_
  clear n0_ n1_ n2_ n3_
  (try clear hb)
  (try clear hb2)
  (try clear hk)
  (try clear hi)
  refine hK.out _ _ ⟨(blk_cell BK176.out 0).trans rfl, (blk_cell BK176.out 1).trans rfl, (blk_cell BK177.out 0).trans rfl, (blk_cell BK177.out 1).trans rfl⟩ (fun hHeld => ?_)
  clear hK K
  refine norm_ (a' := ?_) ?_ ?_
  rotate_left
  · show Act.put _ (some 10) _ = _
    simp only [Act.put, List.setIfInBounds_toArray, List.set_cons_zero, List.set_cons_succ, i64_w, i32_w]
    rfl
  refine one_ (i := 6) (N := none) #[true, true, true, true, true, true, true] rfl rfl (by kernel_rfl) (by decide) (fun K hK => ?_)
  have hs15 : w14.cell? ⟨gb178, 0, none⟩ = some (.int .i64 0) := (blk_cell BK178.out 0).trans rfl
  have hfs15 := blk_frozen BK178.out 0
  have hns15_0 := NB176_178.out
  have hns15_1 := NB177_178.out
  have hms15_0 := NB178_176.out
  have hms15_1 := NB178_177.out
  have hs16 : w14.cell? ⟨gb178, 1, none⟩ = some (.int .u64 0) := (blk_cell BK178.out 1).trans rfl
  have hfs16 := blk_frozen BK178.out 1
  have hns16_0 := NB176_178.out
  have hns16_1 := NB177_178.out
  have hms16_0 := NB178_176.out
  have hms16_1 := NB178_177.out
  refine skip_ (w1 := ?_) (by rfl) rfl ?_ ?_
  rotate_left
  · go_simp
    rfl
  refine hK.out _ _ ⟨((cell_far (p := ⟨gb178, _, none⟩) NB176_178.out _).trans (((cell_far (p := ⟨gb178, _, none⟩) NB176_178.out _).trans (hHeld.1)))), ((cell_far (p := ⟨gb178, _, none⟩) NB176_178.out _).trans (((cell_far (p := ⟨gb178, _, none⟩) NB176_178.out _).trans (hHeld.2.1)))), ((cell_far (p := ⟨gb178, _, none⟩) NB177_178.out _).trans (((cell_far (p := ⟨gb178, _, none⟩) NB177_178.out _).trans (hHeld.2.2.1)))), ((cell_far (p := ⟨gb178, _, none⟩) NB177_178.out _).trans (((cell_far (p := ⟨gb178, _, none⟩) NB177_178.out _).trans (hHeld.2.2.2))))⟩ (fun hHeld => ?_)
  clear hK K
  refine done_ (by kernel_rfl) ?_
  try go_wp2
  refine bodyPost_ret (results_cell_row rfl _ _ gb178 25 #[.int .i64 t194, .int .u64 t195] (0, 0) _ rfl (by (with_reducible repeat (first | refine blk_drewN ?_ _ | refine blk_drew ?_ | refine blk_alloc ?_ _)); refine blk_put (cs := #[.int .i64 t194, .int .u64 0]) ?_ 1 _ rfl; (with_reducible repeat (first | refine blk_drewN ?_ _ | refine blk_drew ?_ | refine blk_alloc ?_ _)); refine blk_put (cs := #[.int .i64 0, .int .u64 0]) ?_ 0 _ rfl; (with_reducible repeat (first | refine blk_drewN ?_ _ | refine blk_drew ?_ | refine blk_alloc ?_ _)); exact BK178.out) Try.underlying25 rfl (by kernel_rfl)) rfl ?_
  exact ⟨by first | rfl | (simp [errW_none, errW_some] <;> rfl) | (simp [*, errW_none, errW_some] <;> rfl), by repeat (first | (with_reducible first | exact HB.out | apply below_alloc | apply pw_below_drewN | apply below_drew1 | refine below_set ?_ GE176.out | refine below_set ?_ GE177.out | refine below_set ?_ GE178.out) | exact HB.out)⟩

/-! ### carouselref1_Turned: function 50 -/
def carouselref1_Turned.f (a0_0 : Bool) (a0_1 : Int) (a0_2 : Int) (a0_3 : Int) (a0_4 : Int) : Option (Bool × Int × Int × Int × Int) := some (!a0_0, a0_1, a0_2, a0_3, a0_4)
set_option maxHeartbeats 8000000 in
set_option maxRecDepth 100000 in
theorem carouselref1_Turned.calls (a0_0 : Bool) (a0_1 : Int) (a0_2 : Int) (a0_3 : Int) (a0_4 : Int) (r1 : Bool) (r2 : Int) (r3 : Int) (r4 : Int) (r5 : Int) (w : World) (h : carouselref1_Turned.f a0_0 a0_1 a0_2 a0_3 a0_4 = some (r1, r2, r3, r4, r5)) :
    Calls Try.prog 50 #[.agg #[.bool a0_0, .int .u64 a0_1, .int .u64 a0_2, .int .u64 a0_3, .int .u64 a0_4]] w fun e w' => e = .returned (.agg #[.bool r1, .int .u64 r2, .int .u64 r3, .int .u64 r4, .int .u64 r5]) ∧ Below w.heap.size w w' := by
  have hu31 := Try.underlying31
  have hu29 := Try.underlying29
  have HB := Aside0.mk (Below.refl w.heap.size w)
  have H : (some (!a0_0, a0_1, a0_2, a0_3, a0_4)) = some (r1, r2, r3, r4, r5) := h
  clear h
  simp only [Option.some.injEq, Prod.mk.injEq] at H
  obtain ⟨rfl, rfl, rfl, rfl, rfl⟩ := H
  go_enter Try.func50, Try.ntmps50
  go_wp2_with (first | ((with_reducible refine gate_dst (N := 1) rfl ?_); refine box_event ?hg (N := 1) ?hd (cs := #[.bool a0_0, .int .u64 a0_1, .int .u64 a0_2, .int .u64 a0_3, .int .u64 a0_4]) (t := 31) ?hr ?_; (case hd => rfl); (case hg => rfl); (case hr => first | (go_simp; done) | (go_simp; rfl)); intro gb196 hg w2 hbox hb; have n0_ := Aside0.mk (below_step (by repeat (first | (with_reducible first | exact HB.out | apply below_alloc | apply pw_below_drewN | apply below_drew1) | exact HB.out)) hb); have n1_ := Aside0.mk (hbox); have n2_ := Aside0.mk ((by rw [hg]; exact (below_size (by repeat (first | (with_reducible first | exact HB.out | apply below_alloc | apply pw_below_drewN | apply below_drew1) | exact HB.out))) : w.heap.size ≤ gb196)); have n3_ := Aside0.mk ((by rw [hg]; exact (below_size (by repeat (first | (with_reducible first | exact HB.out | apply below_alloc | apply pw_below_drewN | apply below_drew1) | exact HB.out))) : w.heap.size ≤ gb196)); clear HB; have HB := n0_; have BK196 := n1_; have GW196 := n2_; have GE196 := n3_; clear n0_ n1_ n2_ n3_; clear hb hbox hg) | ((with_reducible refine gate_dst (N := 2) rfl ?_); refine box_event ?hg (N := 2) ?hd (cs := #[.bool false, .int .u64 0, .int .u64 0, .int .u64 0, .int .u64 0]) (t := 31) ?hr ?_; (case hd => rfl); (case hg => rfl); (case hr => first | (go_simp; done) | (go_simp; rfl)); intro gb197 hg w3 hbox hb; have n0_ := Aside0.mk (blk_below (g := gb196) (o := .cells #[.bool a0_0, .int .u64 a0_1, .int .u64 a0_2, .int .u64 a0_3, .int .u64 a0_4] 31 (0, 0)) (by (with_reducible repeat (first | refine blk_drewN ?_ _ | refine blk_drew ?_ | refine blk_alloc ?_ _)); exact BK196.out) hb); have n1_ := Aside0.mk (below_step (by repeat (first | (with_reducible first | exact HB.out | apply below_alloc | apply pw_below_drewN | apply below_drew1 | refine below_set ?_ GE196.out) | exact HB.out)) hb); have n2_ := Aside0.mk (hbox); have n3_ := Aside0.mk ((by rw [hg]; exact (below_size (by repeat (first | (with_reducible first | exact HB.out | apply below_alloc | apply pw_below_drewN | apply below_drew1 | refine below_set ?_ GE196.out) | exact HB.out))) : w.heap.size ≤ gb197)); have n4_ := Aside0.mk ((by rw [hg]; exact (below_size (by repeat (first | (with_reducible first | exact HB.out | apply below_alloc | apply pw_below_drewN | apply below_drew1 | refine below_set ?_ GE196.out) | exact HB.out))) : w.heap.size ≤ gb197)); have n5_ := Aside0.mk ((by rw [hg]; exact Nat.ne_of_lt (blk_lt (g := gb196) (o := .cells #[.bool a0_0, .int .u64 a0_1, .int .u64 a0_2, .int .u64 a0_3, .int .u64 a0_4] 31 (0, 0)) (by (with_reducible repeat (first | refine blk_drewN ?_ _ | refine blk_drew ?_ | refine blk_alloc ?_ _)); exact BK196.out)) : gb196 ≠ gb197)); have n6_ := Aside0.mk ((by rw [hg]; exact Nat.ne_of_gt (blk_lt (g := gb196) (o := .cells #[.bool a0_0, .int .u64 a0_1, .int .u64 a0_2, .int .u64 a0_3, .int .u64 a0_4] 31 (0, 0)) (by (with_reducible repeat (first | refine blk_drewN ?_ _ | refine blk_drew ?_ | refine blk_alloc ?_ _)); exact BK196.out)) : gb197 ≠ gb196)); clear BK196; clear HB; have BK196 := n0_; have HB := n1_; have BK197 := n2_; have GW197 := n3_; have GE197 := n4_; have NB196_197 := n5_; have NB197_196 := n6_; clear n0_ n1_ n2_ n3_ n4_ n5_ n6_; clear hb hbox hg; have hnb4 := NB196_197.out; have hnc4 := NB197_196.out; have hcz5_0 : w3.cell? ⟨gb196, 0, none⟩ = some (.bool a0_0) := (blk_cell BK196.out 0).trans rfl; have hcz5_1 : w3.cell? ⟨gb196, 1, none⟩ = some (.int .u64 a0_1) := (blk_cell BK196.out 1).trans rfl; have hcz5_2 : w3.cell? ⟨gb196, 2, none⟩ = some (.int .u64 a0_2) := (blk_cell BK196.out 2).trans rfl; have hcz5_3 : w3.cell? ⟨gb196, 3, none⟩ = some (.int .u64 a0_3) := (blk_cell BK196.out 3).trans rfl; have hcz5_4 : w3.cell? ⟨gb196, 4, none⟩ = some (.int .u64 a0_4) := (blk_cell BK196.out 4).trans rfl; have hfz5_0 := blk_frozen BK196.out 0; have hfz5_1 := blk_frozen BK196.out 1; have hfz5_2 := blk_frozen BK196.out 2; have hfz5_3 := blk_frozen BK196.out 3; have hfz5_4 := blk_frozen BK196.out 4; have hcz6_0 : w3.cell? ⟨gb197, 0, none⟩ = some (.bool false) := (blk_cell BK197.out 0).trans rfl; have hcz6_1 : w3.cell? ⟨gb197, 1, none⟩ = some (.int .u64 0) := (blk_cell BK197.out 1).trans rfl; have hcz6_2 : w3.cell? ⟨gb197, 2, none⟩ = some (.int .u64 0) := (blk_cell BK197.out 2).trans rfl; have hcz6_3 : w3.cell? ⟨gb197, 3, none⟩ = some (.int .u64 0) := (blk_cell BK197.out 3).trans rfl; have hcz6_4 : w3.cell? ⟨gb197, 4, none⟩ = some (.int .u64 0) := (blk_cell BK197.out 4).trans rfl; have hfz6_0 := blk_frozen BK197.out 0; have hfz6_1 := blk_frozen BK197.out 1; have hfz6_2 := blk_frozen BK197.out 2; have hfz6_3 := blk_frozen BK197.out 3; have hfz6_4 := blk_frozen BK197.out 4))
  refine bodyPost_ret (results_cell_row rfl _ _ gb197 31 #[.bool (!a0_0), .int .u64 a0_1, .int .u64 a0_2, .int .u64 a0_3, .int .u64 a0_4] (0, 0) _ rfl (by (with_reducible repeat (first | refine blk_drewN ?_ _ | refine blk_drew ?_ | refine blk_alloc ?_ _)); refine blk_put (cs := #[.bool (!a0_0), .int .u64 a0_1, .int .u64 a0_2, .int .u64 a0_3, .int .u64 0]) ?_ 4 _ rfl; (with_reducible repeat (first | refine blk_drewN ?_ _ | refine blk_drew ?_ | refine blk_alloc ?_ _)); refine blk_put (cs := #[.bool (!a0_0), .int .u64 a0_1, .int .u64 a0_2, .int .u64 0, .int .u64 0]) ?_ 3 _ rfl; (with_reducible repeat (first | refine blk_drewN ?_ _ | refine blk_drew ?_ | refine blk_alloc ?_ _)); refine blk_put (cs := #[.bool (!a0_0), .int .u64 a0_1, .int .u64 0, .int .u64 0, .int .u64 0]) ?_ 2 _ rfl; (with_reducible repeat (first | refine blk_drewN ?_ _ | refine blk_drew ?_ | refine blk_alloc ?_ _)); refine blk_put (cs := #[.bool (!a0_0), .int .u64 0, .int .u64 0, .int .u64 0, .int .u64 0]) ?_ 1 _ rfl; (with_reducible repeat (first | refine blk_drewN ?_ _ | refine blk_drew ?_ | refine blk_alloc ?_ _)); refine blk_put (cs := #[.bool false, .int .u64 0, .int .u64 0, .int .u64 0, .int .u64 0]) ?_ 0 _ rfl; (with_reducible repeat (first | refine blk_drewN ?_ _ | refine blk_drew ?_ | refine blk_alloc ?_ _)); exact BK197.out) Try.underlying31 rfl (by kernel_rfl)) rfl ?_
  exact ⟨by first | rfl | (simp [errW_none, errW_some] <;> rfl) | (simp [*, errW_none, errW_some] <;> rfl), by repeat (first | (with_reducible first | exact HB.out | apply below_alloc | apply pw_below_drewN | apply below_drew1 | refine below_set ?_ GE196.out | refine below_set ?_ GE197.out) | exact HB.out)⟩

end Go.Proofs.Ytalghnbolnimiaa.PWideReckons
