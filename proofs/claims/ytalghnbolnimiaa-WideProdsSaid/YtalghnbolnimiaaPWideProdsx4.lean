/- The functions that the law WideProds reaches, as Lean functions, and that each call of the Go function does what its Lean function says, wherever that one answers. Written by a program of mine over the print of the kit; Lean checks it. -/
import Derived.Test.YtalghnbolnimiaaPWideProdsx0
import Derived.Test.YtalghnbolnimiaaPWideProdsx1
import Derived.Test.YtalghnbolnimiaaPWideProdsx2
import Derived.Test.YtalghnbolnimiaaPWideProdsx3
namespace Go.Proofs.Ytalghnbolnimiaa.PWideProds
open Go.RowKit Go.Proofs.YtalghnbolnimiaaW.PrintWords Go.Proofs.YtalghnbolnimiaaW.PrintLast Go.Proofs.YtalghnbolnimiaaW.PrintMore
attribute [local go_sem] max2_int min2_int max_two min_two max_three min_three max_four min_four   -- for this text's walks alone
theorem unxor_23 : (if IntKind.u64.signed = true then (-1 : Int) else IntKind.u64.max) = 18446744073709551615 := rfl
attribute [local go_sem] unxor_23
set_option linter.unusedVariables false
set_option linter.unusedSimpArgs false

attribute [local go_sem high] eqA25
/-! ### wide_Shift: function 23 -/
mutual
def wide_Shift.j0 : Nat → Int → Bool → Int → Int → Option (Int × Int)
  | 0, _, _, _, _ => none
  | k + 1, x1, x13, x132000, x132001 => if x13 = true then (some (x132000, x132001)) else ((wide_down.f x132000 x132001 x1).bind fun bt133 => (if bt133.2.2.1 > 9223372036854775808 then (wide_Shift.j1 k true bt133.1 bt133.2.1) else (if bt133.2.2.1 = 9223372036854775808 then (if bt133.2.2.2 > 0 then (wide_Shift.j1 k true bt133.1 bt133.2.1) else (wide_Shift.j1 k ((Go.bits .and .u64 bt133.2.1 1) == 1) bt133.1 bt133.2.1)) else (wide_Shift.j1 k false bt133.1 bt133.2.1))))
def wide_Shift.j1 : Nat → Bool → Int → Int → Option (Int × Int)
  | 0, _, _, _ => none
  | k + 1, x37, x138000, x138001 => if x37 = true then ((wide_Of.f 1).bind fun bt138 => ((wide_Add.f x138000 x138001 bt138.1 bt138.2).bind fun bt140 => (some (bt140.1, bt140.2)))) else (some (x138000, x138001))
end
def wide_Shift.f (k : Nat) (a0_0 : Int) (a0_1 : Int) (a1 : Int) : Option (Int × Int) := if a1 < 1 then (wide_Shift.j0 k a1 true a0_0 a0_1) else (wide_Shift.j0 k a1 (decide (a1 > 126)) a0_0 a0_1)
theorem wide_Shift.mono_l : ∀ k, (∀ y0 y1 y2 y3, LeO (wide_Shift.j0 k y0 y1 y2 y3) (wide_Shift.j0 (k + 1) y0 y1 y2 y3)) ∧ (∀ y0 y1 y2, LeO (wide_Shift.j1 k y0 y1 y2) (wide_Shift.j1 (k + 1) y0 y1 y2))
  | 0 => ⟨fun _ _ _ _ r h => by simp [wide_Shift.j0] at h, fun _ _ _ r h => by simp [wide_Shift.j1] at h⟩
  | k + 1 => by
    obtain ⟨ih0, ih1⟩ := wide_Shift.mono_l k
    refine ⟨?_, ?_⟩
    · intro y0 y1 y2 y3
      unfold wide_Shift.j0
      repeat' first
      | (with_reducible exact ih0 _ _ _ _)
      | (with_reducible exact ih1 _ _ _)
      | (with_reducible exact LeO.refl _)
      | (with_reducible exact LeO.none _)
      | (with_reducible refine LeO.ite ?_ ?_)
      | (with_reducible refine LeO.bind ?_ (fun _ => ?_))
      | exact ih0 _ _ _ _
      | exact ih1 _ _ _
      | exact LeO.none _
      | refine LeO.ite ?_ ?_
      | refine LeO.bind ?_ (fun _ => ?_)
    · intro y0 y1 y2
      unfold wide_Shift.j1
      repeat' first
      | (with_reducible exact ih0 _ _ _ _)
      | (with_reducible exact ih1 _ _ _)
      | (with_reducible exact LeO.refl _)
      | (with_reducible exact LeO.none _)
      | (with_reducible refine LeO.ite ?_ ?_)
      | (with_reducible refine LeO.bind ?_ (fun _ => ?_))
      | exact ih0 _ _ _ _
      | exact ih1 _ _ _
      | exact LeO.none _
      | refine LeO.ite ?_ ?_
      | refine LeO.bind ?_ (fun _ => ?_)
theorem wide_Shift.mono : ∀ a0 a1 a2 k, LeO (wide_Shift.f k a0 a1 a2) (wide_Shift.f (k + 1) a0 a1 a2) := by
  intro a0 a1 a2 k
  obtain ⟨ih0, ih1⟩ := wide_Shift.mono_l k
  unfold wide_Shift.f
  repeat' first
      | (with_reducible exact ih0 _ _ _ _)
      | (with_reducible exact ih1 _ _ _)
      | (with_reducible exact LeO.refl _)
      | (with_reducible exact LeO.none _)
      | (with_reducible refine LeO.ite ?_ ?_)
      | (with_reducible refine LeO.bind ?_ (fun _ => ?_))
      | exact ih0 _ _ _ _
      | exact ih1 _ _ _
      | exact LeO.none _
      | refine LeO.ite ?_ ?_
      | refine LeO.bind ?_ (fun _ => ?_)
set_option maxHeartbeats 8000000 in
set_option maxRecDepth 100000 in
theorem wide_Shift.calls (k : Nat) (a0_0 : Int) (a0_1 : Int) (a1 : Int) (r1 : Int) (r2 : Int) (w : World) (h : wide_Shift.f k a0_0 a0_1 a1 = some (r1, r2)) :
    Calls Try.prog 23 #[.agg #[.int .i64 a0_0, .int .u64 a0_1], .int .i64 a1] w fun e w' => e = .returned (.agg #[.int .i64 r1, .int .u64 r2]) ∧ Below w.heap.size w w' := by
  have hu25 := Try.underlying25
  have HB := Aside0.mk (Below.refl w.heap.size w)
  have H : (if a1 < 1 then (wide_Shift.j0 k a1 true a0_0 a0_1) else (wide_Shift.j0 k a1 (decide (a1 > 126)) a0_0 a0_1)) = some (r1, r2) := h
  clear h
  have HC3 := Aside0.mk H
  clear H
  go_enter Try.func23, Try.ntmps23
  go_upto_region 1 with (first | ((with_reducible refine gate_dst (N := 2) rfl ?_); refine box_event ?hg (N := 2) ?hd (cs := #[.int .i64 a0_0, .int .u64 a0_1]) (t := 25) ?hr ?_; (case hd => rfl); (case hg => rfl); (case hr => first | (go_simp; done) | (go_simp; rfl)); intro gb131 hg w4 hbox hb; have n0_ := Aside0.mk (below_step (by repeat (first | (with_reducible first | exact HB.out | apply below_alloc | apply pw_below_drewN | apply below_drew1) | exact HB.out)) hb); have n1_ := Aside0.mk (hbox); have n2_ := Aside0.mk ((by rw [hg]; exact (below_size (by repeat (first | (with_reducible first | exact HB.out | apply below_alloc | apply pw_below_drewN | apply below_drew1) | exact HB.out))) : w.heap.size ≤ gb131)); have n3_ := Aside0.mk ((by rw [hg]; exact (below_size (by repeat (first | (with_reducible first | exact HB.out | apply below_alloc | apply pw_below_drewN | apply below_drew1) | exact HB.out))) : w.heap.size ≤ gb131)); clear HB; have HB := n0_; have BK131 := n1_; have GW131 := n2_; have GE131 := n3_; clear n0_ n1_ n2_ n3_; clear hb hbox hg) | ((with_reducible refine gate_dst (N := 4) rfl ?_); refine box_event ?hg (N := 4) ?hd (cs := #[.int .i64 0, .int .u64 0]) (t := 25) ?hr ?_; (case hd => rfl); (case hg => rfl); (case hr => first | (go_simp; done) | (go_simp; rfl)); intro gb132 hg w5 hbox hb; have n0_ := Aside0.mk (blk_below (g := gb131) (o := .cells #[.int .i64 a0_0, .int .u64 a0_1] 25 (0, 0)) (by (with_reducible repeat (first | refine blk_drewN ?_ _ | refine blk_drew ?_ | refine blk_alloc ?_ _)); exact BK131.out) hb); have n1_ := Aside0.mk (below_step (by repeat (first | (with_reducible first | exact HB.out | apply below_alloc | apply pw_below_drewN | apply below_drew1 | refine below_set ?_ GE131.out) | exact HB.out)) hb); have n2_ := Aside0.mk (hbox); have n3_ := Aside0.mk ((by rw [hg]; exact (below_size (by repeat (first | (with_reducible first | exact HB.out | apply below_alloc | apply pw_below_drewN | apply below_drew1 | refine below_set ?_ GE131.out) | exact HB.out))) : w.heap.size ≤ gb132)); have n4_ := Aside0.mk ((by rw [hg]; exact (below_size (by repeat (first | (with_reducible first | exact HB.out | apply below_alloc | apply pw_below_drewN | apply below_drew1 | refine below_set ?_ GE131.out) | exact HB.out))) : w.heap.size ≤ gb132)); have n5_ := Aside0.mk ((by rw [hg]; exact Nat.ne_of_lt (blk_lt (g := gb131) (o := .cells #[.int .i64 a0_0, .int .u64 a0_1] 25 (0, 0)) (by (with_reducible repeat (first | refine blk_drewN ?_ _ | refine blk_drew ?_ | refine blk_alloc ?_ _)); exact BK131.out)) : gb131 ≠ gb132)); have n6_ := Aside0.mk ((by rw [hg]; exact Nat.ne_of_gt (blk_lt (g := gb131) (o := .cells #[.int .i64 a0_0, .int .u64 a0_1] 25 (0, 0)) (by (with_reducible repeat (first | refine blk_drewN ?_ _ | refine blk_drew ?_ | refine blk_alloc ?_ _)); exact BK131.out)) : gb132 ≠ gb131)); clear BK131; clear HB; have BK131 := n0_; have HB := n1_; have BK132 := n2_; have GW132 := n3_; have GE132 := n4_; have NB131_132 := n5_; have NB132_131 := n6_; clear n0_ n1_ n2_ n3_ n4_ n5_ n6_; clear hb hbox hg))
  (try simp only [Act.put, List.setIfInBounds_toArray, List.set_cons_zero, List.set_cons_succ])
  go_cut [13] (fun v13 wc => ∃ (kq : Nat) (x13_2 : Bool), v13 = .bool x13_2 ∧ Aside0 (wide_Shift.j0 kq a1 x13_2 a0_0 a0_1 = some (r1, r2)) ∧ Aside0 (kq ≤ k) ∧ Aside0 (wc.heap[gb131]? = some (.cells #[.int .i64 a0_0, .int .u64 a0_1] 25 (0, 0))) ∧ Aside0 (wc.heap[gb132]? = some (.cells #[.int .i64 0, .int .u64 0] 25 (0, 0))) ∧ Aside0 (Below w.heap.size w wc))
  case first =>
    have H := HC3.out
    clear HC3
    by_cases c6 : a1 < 1
    · rw [if_pos c6] at H
      have c6b0 : decide (a1 < 1) = true := decide_eq_true c6
      clear c6
      (first | rw [c6b0] | (simp only [i64_w, i32_w]; rw [c6b0]) | skip)
      have H' := Aside0.mk H
      clear H
      go_wp2
      go_meet
      case rel => exact ⟨_, (true), (by first | rfl | (simp; done) | (simp [*]; done)), H', ⟨by first | omega | exact Nat.le_refl _⟩, ⟨by (with_reducible repeat (first | refine blk_drewN ?_ _ | refine blk_drew ?_ | refine blk_alloc ?_ _)); exact BK131.out⟩, ⟨by (with_reducible repeat (first | refine blk_drewN ?_ _ | refine blk_drew ?_ | refine blk_alloc ?_ _)); exact BK132.out⟩, ⟨by repeat (first | (with_reducible first | exact HB.out | apply below_alloc | apply pw_below_drewN | apply below_drew1 | refine below_set ?_ GE131.out | refine below_set ?_ GE132.out) | exact HB.out)⟩⟩
    · rw [if_neg c6] at H
      have c6b0 : decide (a1 < 1) = false := decide_eq_false c6
      clear c6
      (first | rw [c6b0] | (simp only [i64_w, i32_w]; rw [c6b0]) | skip)
      have H' := Aside0.mk H
      clear H
      go_wp2
      go_meet
      case rel => exact ⟨_, (decide (a1 > 126)), (by first | rfl | (simp; done) | (simp [*]; done)), H', ⟨by first | omega | exact Nat.le_refl _⟩, ⟨by (with_reducible repeat (first | refine blk_drewN ?_ _ | refine blk_drew ?_ | refine blk_alloc ?_ _)); exact BK131.out⟩, ⟨by (with_reducible repeat (first | refine blk_drewN ?_ _ | refine blk_drew ?_ | refine blk_alloc ?_ _)); exact BK132.out⟩, ⟨by repeat (first | (with_reducible first | exact HB.out | apply below_alloc | apply pw_below_drewN | apply below_drew1 | refine below_set ?_ GE131.out | refine below_set ?_ GE132.out) | exact HB.out)⟩⟩
  case rest =>
    clear HC3
    try clear c2
    try clear p2
    try clear c6
    try clear c6b0
    obtain ⟨kq, x13_2, rfl, HA, HJ2, BK131, BK132, HB⟩ := hcut
    cases kq with
    | zero => exact absurd HA.out (by simp [wide_Shift.j0])
    | succ kj2 =>
      have H := HA.out
      clear HA
      simp only [wide_Shift.j0] at H
      by_cases c7 : x13_2 = true
      · subst c7
        have H1 : (some (a0_0, a0_1)) = some (r1, r2) := by rw [if_pos rfl] at H; exact H
        clear H
        have H := H1
        clear H1
        simp only [Option.some.injEq, Prod.mk.injEq] at H
        obtain ⟨rfl, rfl⟩ := H
        have hnb8 := NB131_132.out
        have hnc8 := NB132_131.out
        have hcz9_0 : wc.cell? ⟨gb131, 0, none⟩ = some (.int .i64 a0_0) := (blk_cell BK131.out 0).trans rfl
        have hcz9_1 : wc.cell? ⟨gb131, 1, none⟩ = some (.int .u64 a0_1) := (blk_cell BK131.out 1).trans rfl
        have hfz9_0 := blk_frozen BK131.out 0
        have hfz9_1 := blk_frozen BK131.out 1
        have hcz10_0 : wc.cell? ⟨gb132, 0, none⟩ = some (.int .i64 0) := (blk_cell BK132.out 0).trans rfl
        have hcz10_1 : wc.cell? ⟨gb132, 1, none⟩ = some (.int .u64 0) := (blk_cell BK132.out 1).trans rfl
        have hfz10_0 := blk_frozen BK132.out 0
        have hfz10_1 := blk_frozen BK132.out 1
        go_wp2
        refine bodyPost_ret (results_cell_row rfl _ _ gb132 25 #[.int .i64 a0_0, .int .u64 a0_1] (0, 0) _ rfl (by (with_reducible repeat (first | refine blk_drewN ?_ _ | refine blk_drew ?_ | refine blk_alloc ?_ _)); refine blk_put (cs := #[.int .i64 a0_0, .int .u64 0]) ?_ 1 _ rfl; (with_reducible repeat (first | refine blk_drewN ?_ _ | refine blk_drew ?_ | refine blk_alloc ?_ _)); refine blk_put (cs := #[.int .i64 0, .int .u64 0]) ?_ 0 _ rfl; (with_reducible repeat (first | refine blk_drewN ?_ _ | refine blk_drew ?_ | refine blk_alloc ?_ _)); exact BK132.out) Try.underlying25 rfl (by kernel_rfl)) rfl ?_
        exact ⟨by first | rfl | (simp [errW_none, errW_some] <;> rfl) | (simp [*, errW_none, errW_some] <;> rfl), by repeat (first | (with_reducible first | exact HB.out | apply below_alloc | apply pw_below_drewN | apply below_drew1 | refine below_set ?_ GE131.out | refine below_set ?_ GE132.out) | exact HB.out)⟩
      · replace c7 := Bool.eq_false_iff.mpr c7
        subst c7
        have H1 : ((wide_down.f a0_0 a0_1 a1).bind fun bt133 => (if bt133.2.2.1 > 9223372036854775808 then (wide_Shift.j1 kj2 true bt133.1 bt133.2.1) else (if bt133.2.2.1 = 9223372036854775808 then (if bt133.2.2.2 > 0 then (wide_Shift.j1 kj2 true bt133.1 bt133.2.1) else (wide_Shift.j1 kj2 ((Go.bits .and .u64 bt133.2.1 1) == 1) bt133.1 bt133.2.1)) else (wide_Shift.j1 kj2 false bt133.1 bt133.2.1)))) = some (r1, r2) := by rw [if_neg (show ¬ (false = true) by decide)] at H; exact H
        clear H
        have H := H1
        clear H1
        replace H := Option.bind_eq_some_iff.mp H
        obtain ⟨⟨t133, t134, t135, t136⟩, A110, H⟩ := H
        replace H : (if t135 > 9223372036854775808 then (wide_Shift.j1 kj2 true t133 t134) else (if t135 = 9223372036854775808 then (if t136 > 0 then (wide_Shift.j1 kj2 true t133 t134) else (wide_Shift.j1 kj2 ((Go.bits .and .u64 t134 1) == 1) t133 t134)) else (wide_Shift.j1 kj2 false t133 t134))) = some (r1, r2) := H
        have A11 := Aside0.mk A110
        clear A110
        have HC12 := Aside0.mk H
        clear H
        have hnb13 := NB131_132.out
        have hnc13 := NB132_131.out
        have hcz14_0 : wc.cell? ⟨gb131, 0, none⟩ = some (.int .i64 a0_0) := (blk_cell BK131.out 0).trans rfl
        have hcz14_1 : wc.cell? ⟨gb131, 1, none⟩ = some (.int .u64 a0_1) := (blk_cell BK131.out 1).trans rfl
        have hfz14_0 := blk_frozen BK131.out 0
        have hfz14_1 := blk_frozen BK131.out 1
        go_upto_region 4 with (first | ((with_reducible refine gate_callee (f := 45) rfl ?_); refine goesL_ (some 18) rfl rfl Try.func45 (by kernel_rfl) rfl #[.agg #[.int .i64 a0_0, .int .u64 a0_1], .int .i64 a1] rfl (by (try simp only [List.map_toArray, List.map_cons, List.map_nil]); first | done | rfl | (simp only [List.length_drop, List.length_take]; rfl)) ?_; (with_reducible refine (wide_down.calls a0_0 a0_1 a1 t133 t134 t135 t136 _ A11.out).mono ?_); rintro e w15 ⟨rfl, hb⟩; refine ⟨_, rfl, ?_⟩; have n0_ := Aside0.mk (blk_below (g := gb131) (o := .cells #[.int .i64 a0_0, .int .u64 a0_1] 25 (0, 0)) (by (with_reducible repeat (first | refine blk_drewN ?_ _ | refine blk_drew ?_ | refine blk_alloc ?_ _)); exact BK131.out) hb); have n1_ := Aside0.mk (blk_below (g := gb132) (o := .cells #[.int .i64 0, .int .u64 0] 25 (0, 0)) (by (with_reducible repeat (first | refine blk_drewN ?_ _ | refine blk_drew ?_ | refine blk_alloc ?_ _)); exact BK132.out) hb); have n2_ := Aside0.mk (below_step (by repeat (first | (with_reducible first | exact HB.out | apply below_alloc | apply pw_below_drewN | apply below_drew1 | refine below_set ?_ GE131.out | refine below_set ?_ GE132.out) | exact HB.out)) hb); clear BK131; clear BK132; clear HB; have BK131 := n0_; have BK132 := n1_; have HB := n2_; clear n0_ n1_ n2_; (try clear hb); (try clear hb2); (try clear hk); (try clear hi)) | ((with_reducible refine gate_dst (N := 5) rfl ?_); refine box_event ?hg (N := 5) ?hd (cs := #[.int .i64 0, .int .u64 0]) (t := 25) ?hr ?_; (case hd => rfl); (case hg => rfl); (case hr => first | (go_simp; done) | (go_simp; rfl)); intro gb137 hg w16 hbox hb; have n0_ := Aside0.mk (blk_below (g := gb131) (o := .cells #[.int .i64 a0_0, .int .u64 a0_1] 25 (0, 0)) (by (with_reducible repeat (first | refine blk_drewN ?_ _ | refine blk_drew ?_ | refine blk_alloc ?_ _)); exact BK131.out) hb); have n1_ := Aside0.mk (blk_below (g := gb132) (o := .cells #[.int .i64 0, .int .u64 0] 25 (0, 0)) (by (with_reducible repeat (first | refine blk_drewN ?_ _ | refine blk_drew ?_ | refine blk_alloc ?_ _)); exact BK132.out) hb); have n2_ := Aside0.mk (below_step (by repeat (first | (with_reducible first | exact HB.out | apply below_alloc | apply pw_below_drewN | apply below_drew1 | refine below_set ?_ GE131.out | refine below_set ?_ GE132.out) | exact HB.out)) hb); have n3_ := Aside0.mk (hbox); have n4_ := Aside0.mk ((by rw [hg]; exact (below_size (by repeat (first | (with_reducible first | exact HB.out | apply below_alloc | apply pw_below_drewN | apply below_drew1 | refine below_set ?_ GE131.out | refine below_set ?_ GE132.out) | exact HB.out))) : w.heap.size ≤ gb137)); have n5_ := Aside0.mk ((by rw [hg]; exact (below_size (by repeat (first | (with_reducible first | exact HB.out | apply below_alloc | apply pw_below_drewN | apply below_drew1 | refine below_set ?_ GE131.out | refine below_set ?_ GE132.out) | exact HB.out))) : w.heap.size ≤ gb137)); have n6_ := Aside0.mk ((by rw [hg]; exact Nat.ne_of_lt (blk_lt (g := gb131) (o := .cells #[.int .i64 a0_0, .int .u64 a0_1] 25 (0, 0)) (by (with_reducible repeat (first | refine blk_drewN ?_ _ | refine blk_drew ?_ | refine blk_alloc ?_ _)); exact BK131.out)) : gb131 ≠ gb137)); have n7_ := Aside0.mk ((by rw [hg]; exact Nat.ne_of_gt (blk_lt (g := gb131) (o := .cells #[.int .i64 a0_0, .int .u64 a0_1] 25 (0, 0)) (by (with_reducible repeat (first | refine blk_drewN ?_ _ | refine blk_drew ?_ | refine blk_alloc ?_ _)); exact BK131.out)) : gb137 ≠ gb131)); have n8_ := Aside0.mk ((by rw [hg]; exact Nat.ne_of_lt (blk_lt (g := gb132) (o := .cells #[.int .i64 0, .int .u64 0] 25 (0, 0)) (by (with_reducible repeat (first | refine blk_drewN ?_ _ | refine blk_drew ?_ | refine blk_alloc ?_ _)); exact BK132.out)) : gb132 ≠ gb137)); have n9_ := Aside0.mk ((by rw [hg]; exact Nat.ne_of_gt (blk_lt (g := gb132) (o := .cells #[.int .i64 0, .int .u64 0] 25 (0, 0)) (by (with_reducible repeat (first | refine blk_drewN ?_ _ | refine blk_drew ?_ | refine blk_alloc ?_ _)); exact BK132.out)) : gb137 ≠ gb132)); clear BK131; clear BK132; clear HB; have BK131 := n0_; have BK132 := n1_; have HB := n2_; have BK137 := n3_; have GW137 := n4_; have GE137 := n5_; have NB131_137 := n6_; have NB137_131 := n7_; have NB132_137 := n8_; have NB137_132 := n9_; clear n0_ n1_ n2_ n3_ n4_ n5_ n6_ n7_ n8_ n9_; clear hb hbox hg; have hnb17 := NB137_131.out; have hnc17 := NB131_137.out; have hnb18 := NB137_132.out; have hnc18 := NB132_137.out; have hcz19_0 : w16.cell? ⟨gb137, 0, none⟩ = some (.int .i64 0) := (blk_cell BK137.out 0).trans rfl; have hcz19_1 : w16.cell? ⟨gb137, 1, none⟩ = some (.int .u64 0) := (blk_cell BK137.out 1).trans rfl; have hfz19_0 := blk_frozen BK137.out 0; have hfz19_1 := blk_frozen BK137.out 1))
        (try simp only [Act.put, List.setIfInBounds_toArray, List.set_cons_zero, List.set_cons_succ])
        go_cut [37] (fun v37 wc => ∃ (kq : Nat) (x37_11 : Bool), v37 = .bool x37_11 ∧ Aside0 (wide_Shift.j1 kq x37_11 t133 t134 = some (r1, r2)) ∧ Aside0 (kq ≤ kj2) ∧ Aside0 (wc.heap[gb131]? = some (.cells #[.int .i64 a0_0, .int .u64 a0_1] 25 (0, 0))) ∧ Aside0 (wc.heap[gb132]? = some (.cells #[.int .i64 0, .int .u64 0] 25 (0, 0))) ∧ Aside0 (wc.heap[gb137]? = some (.cells #[.int .i64 t133, .int .u64 t134] 25 (0, 0))) ∧ Aside0 (Below w.heap.size w wc))
        case first =>
          have H := HC12.out
          clear HC12
          by_cases c20 : t135 > 9223372036854775808
          · rw [if_pos c20] at H
            have c20b0 : decide (9223372036854775808 < t135) = true := decide_eq_true c20
            clear c20
            (first | rw [c20b0] | (simp only [i64_w, i32_w]; rw [c20b0]) | skip)
            have H' := Aside0.mk H
            clear H
            go_wp2
            go_meet
            case rel => exact ⟨_, (true), (by first | rfl | (simp; done) | (simp [*]; done)), H', ⟨by have := HJ2.out; first | omega | exact Nat.le_refl _⟩, ⟨by (with_reducible repeat (first | refine blk_drewN ?_ _ | refine blk_drew ?_ | refine blk_alloc ?_ _)); refine blk_far ?_ NB131_137.out _; (with_reducible repeat (first | refine blk_drewN ?_ _ | refine blk_drew ?_ | refine blk_alloc ?_ _)); refine blk_far ?_ NB131_137.out _; (with_reducible repeat (first | refine blk_drewN ?_ _ | refine blk_drew ?_ | refine blk_alloc ?_ _)); exact BK131.out⟩, ⟨by (with_reducible repeat (first | refine blk_drewN ?_ _ | refine blk_drew ?_ | refine blk_alloc ?_ _)); refine blk_far ?_ NB132_137.out _; (with_reducible repeat (first | refine blk_drewN ?_ _ | refine blk_drew ?_ | refine blk_alloc ?_ _)); refine blk_far ?_ NB132_137.out _; (with_reducible repeat (first | refine blk_drewN ?_ _ | refine blk_drew ?_ | refine blk_alloc ?_ _)); exact BK132.out⟩, ⟨by (with_reducible repeat (first | refine blk_drewN ?_ _ | refine blk_drew ?_ | refine blk_alloc ?_ _)); refine blk_put (cs := #[.int .i64 t133, .int .u64 0]) ?_ 1 _ rfl; (with_reducible repeat (first | refine blk_drewN ?_ _ | refine blk_drew ?_ | refine blk_alloc ?_ _)); refine blk_put (cs := #[.int .i64 0, .int .u64 0]) ?_ 0 _ rfl; (with_reducible repeat (first | refine blk_drewN ?_ _ | refine blk_drew ?_ | refine blk_alloc ?_ _)); exact BK137.out⟩, ⟨by repeat (first | (with_reducible first | exact HB.out | apply below_alloc | apply pw_below_drewN | apply below_drew1 | refine below_set ?_ GE131.out | refine below_set ?_ GE132.out | refine below_set ?_ GE137.out) | exact HB.out)⟩⟩
          · rw [if_neg c20] at H
            have c20b0 : decide (9223372036854775808 < t135) = false := decide_eq_false c20
            clear c20
            (first | rw [c20b0] | (simp only [i64_w, i32_w]; rw [c20b0]) | skip)
            by_cases c21 : t135 = 9223372036854775808
            · rw [if_pos c21] at H
              have c21b0 : (t135 == 9223372036854775808) = true := beq_iff_eq.mpr c21
              have c21b1 : (t135 != 9223372036854775808) = false := bne_eq_false_iff_eq.mpr c21
              clear c21
              by_cases c22 : t136 > 0
              · rw [if_pos c22] at H
                have c22b0 : decide (0 < t136) = true := decide_eq_true c22
                clear c22
                have H' := Aside0.mk H
                clear H
                go_wp2
                go_meet
                case rel => exact ⟨_, (true), (by first | rfl | (simp; done) | (simp [*]; done)), H', ⟨by have := HJ2.out; first | omega | exact Nat.le_refl _⟩, ⟨by (with_reducible repeat (first | refine blk_drewN ?_ _ | refine blk_drew ?_ | refine blk_alloc ?_ _)); refine blk_far ?_ NB131_137.out _; (with_reducible repeat (first | refine blk_drewN ?_ _ | refine blk_drew ?_ | refine blk_alloc ?_ _)); refine blk_far ?_ NB131_137.out _; (with_reducible repeat (first | refine blk_drewN ?_ _ | refine blk_drew ?_ | refine blk_alloc ?_ _)); exact BK131.out⟩, ⟨by (with_reducible repeat (first | refine blk_drewN ?_ _ | refine blk_drew ?_ | refine blk_alloc ?_ _)); refine blk_far ?_ NB132_137.out _; (with_reducible repeat (first | refine blk_drewN ?_ _ | refine blk_drew ?_ | refine blk_alloc ?_ _)); refine blk_far ?_ NB132_137.out _; (with_reducible repeat (first | refine blk_drewN ?_ _ | refine blk_drew ?_ | refine blk_alloc ?_ _)); exact BK132.out⟩, ⟨by (with_reducible repeat (first | refine blk_drewN ?_ _ | refine blk_drew ?_ | refine blk_alloc ?_ _)); refine blk_put (cs := #[.int .i64 t133, .int .u64 0]) ?_ 1 _ rfl; (with_reducible repeat (first | refine blk_drewN ?_ _ | refine blk_drew ?_ | refine blk_alloc ?_ _)); refine blk_put (cs := #[.int .i64 0, .int .u64 0]) ?_ 0 _ rfl; (with_reducible repeat (first | refine blk_drewN ?_ _ | refine blk_drew ?_ | refine blk_alloc ?_ _)); exact BK137.out⟩, ⟨by repeat (first | (with_reducible first | exact HB.out | apply below_alloc | apply pw_below_drewN | apply below_drew1 | refine below_set ?_ GE131.out | refine below_set ?_ GE132.out | refine below_set ?_ GE137.out) | exact HB.out)⟩⟩
              · rw [if_neg c22] at H
                have c22b0 : decide (0 < t136) = false := decide_eq_false c22
                clear c22
                have H' := Aside0.mk H
                clear H
                have hnb23 := NB137_131.out
                have hnc23 := NB131_137.out
                have hnb24 := NB137_132.out
                have hnc24 := NB132_137.out
                have hcz25_0 : w16.cell? ⟨gb137, 0, none⟩ = some (.int .i64 0) := (blk_cell BK137.out 0).trans rfl
                have hcz25_1 : w16.cell? ⟨gb137, 1, none⟩ = some (.int .u64 0) := (blk_cell BK137.out 1).trans rfl
                have hfz25_0 := blk_frozen BK137.out 0
                have hfz25_1 := blk_frozen BK137.out 1
                go_wp2
                go_meet
                case rel => exact ⟨_, (((Go.bits .and .u64 t134 1) == 1)), (by first | rfl | (simp; done) | (simp [*]; done)), H', ⟨by have := HJ2.out; first | omega | exact Nat.le_refl _⟩, ⟨by (with_reducible repeat (first | refine blk_drewN ?_ _ | refine blk_drew ?_ | refine blk_alloc ?_ _)); refine blk_far ?_ NB131_137.out _; (with_reducible repeat (first | refine blk_drewN ?_ _ | refine blk_drew ?_ | refine blk_alloc ?_ _)); refine blk_far ?_ NB131_137.out _; (with_reducible repeat (first | refine blk_drewN ?_ _ | refine blk_drew ?_ | refine blk_alloc ?_ _)); exact BK131.out⟩, ⟨by (with_reducible repeat (first | refine blk_drewN ?_ _ | refine blk_drew ?_ | refine blk_alloc ?_ _)); refine blk_far ?_ NB132_137.out _; (with_reducible repeat (first | refine blk_drewN ?_ _ | refine blk_drew ?_ | refine blk_alloc ?_ _)); refine blk_far ?_ NB132_137.out _; (with_reducible repeat (first | refine blk_drewN ?_ _ | refine blk_drew ?_ | refine blk_alloc ?_ _)); exact BK132.out⟩, ⟨by (with_reducible repeat (first | refine blk_drewN ?_ _ | refine blk_drew ?_ | refine blk_alloc ?_ _)); refine blk_put (cs := #[.int .i64 t133, .int .u64 0]) ?_ 1 _ rfl; (with_reducible repeat (first | refine blk_drewN ?_ _ | refine blk_drew ?_ | refine blk_alloc ?_ _)); refine blk_put (cs := #[.int .i64 0, .int .u64 0]) ?_ 0 _ rfl; (with_reducible repeat (first | refine blk_drewN ?_ _ | refine blk_drew ?_ | refine blk_alloc ?_ _)); exact BK137.out⟩, ⟨by repeat (first | (with_reducible first | exact HB.out | apply below_alloc | apply pw_below_drewN | apply below_drew1 | refine below_set ?_ GE131.out | refine below_set ?_ GE132.out | refine below_set ?_ GE137.out) | exact HB.out)⟩⟩
            · rw [if_neg c21] at H
              have c21b0 : (t135 == 9223372036854775808) = false := beq_eq_false_iff_ne.mpr c21
              have c21b1 : (t135 != 9223372036854775808) = true := bne_iff_ne.mpr c21
              have H' := Aside0.mk H
              clear H
              go_wp2
              go_meet
              case rel => exact ⟨_, (false), (by first | rfl | (simp; done) | (simp [*]; done)), H', ⟨by have := HJ2.out; first | omega | exact Nat.le_refl _⟩, ⟨by (with_reducible repeat (first | refine blk_drewN ?_ _ | refine blk_drew ?_ | refine blk_alloc ?_ _)); refine blk_far ?_ NB131_137.out _; (with_reducible repeat (first | refine blk_drewN ?_ _ | refine blk_drew ?_ | refine blk_alloc ?_ _)); refine blk_far ?_ NB131_137.out _; (with_reducible repeat (first | refine blk_drewN ?_ _ | refine blk_drew ?_ | refine blk_alloc ?_ _)); exact BK131.out⟩, ⟨by (with_reducible repeat (first | refine blk_drewN ?_ _ | refine blk_drew ?_ | refine blk_alloc ?_ _)); refine blk_far ?_ NB132_137.out _; (with_reducible repeat (first | refine blk_drewN ?_ _ | refine blk_drew ?_ | refine blk_alloc ?_ _)); refine blk_far ?_ NB132_137.out _; (with_reducible repeat (first | refine blk_drewN ?_ _ | refine blk_drew ?_ | refine blk_alloc ?_ _)); exact BK132.out⟩, ⟨by (with_reducible repeat (first | refine blk_drewN ?_ _ | refine blk_drew ?_ | refine blk_alloc ?_ _)); refine blk_put (cs := #[.int .i64 t133, .int .u64 0]) ?_ 1 _ rfl; (with_reducible repeat (first | refine blk_drewN ?_ _ | refine blk_drew ?_ | refine blk_alloc ?_ _)); refine blk_put (cs := #[.int .i64 0, .int .u64 0]) ?_ 0 _ rfl; (with_reducible repeat (first | refine blk_drewN ?_ _ | refine blk_drew ?_ | refine blk_alloc ?_ _)); exact BK137.out⟩, ⟨by repeat (first | (with_reducible first | exact HB.out | apply below_alloc | apply pw_below_drewN | apply below_drew1 | refine below_set ?_ GE131.out | refine below_set ?_ GE132.out | refine below_set ?_ GE137.out) | exact HB.out)⟩⟩
        case rest =>
          clear HC12
          try clear c1
          try clear c2
          try clear p2
          try clear c4
          try clear c6
          try clear c6b0
          try clear c7
          try clear c8
          try clear c13
          try clear c17
          try clear c18
          try clear c20
          try clear c20b0
          try clear c21
          try clear c21b0
          try clear c21b1
          try clear c22
          try clear c22b0
          try clear c23
          try clear c24
          try clear hcz10_0
          try clear hcz10_1
          try clear hcz14_0
          try clear hcz14_1
          try clear hcz19_0
          try clear hcz19_1
          try clear hcz25_0
          try clear hcz25_1
          try clear hcz9_0
          try clear hcz9_1
          try clear hfz10_0
          try clear hfz10_1
          try clear hfz14_0
          try clear hfz14_1
          try clear hfz19_0
          try clear hfz19_1
          try clear hfz25_0
          try clear hfz25_1
          try clear hfz9_0
          try clear hfz9_1
          try clear p2
          obtain ⟨kq, x37_11, rfl, HA, HJ11, BK131, BK132, BK137, HB⟩ := hcut
          cases kq with
          | zero => exact absurd HA.out (by simp [wide_Shift.j1])
          | succ kj11 =>
            have H := HA.out
            clear HA
            simp only [wide_Shift.j1] at H
            by_cases c26 : x37_11 = true
            · subst c26
              have H1 : ((wide_Of.f 1).bind fun bt138 => ((wide_Add.f t133 t134 bt138.1 bt138.2).bind fun bt140 => (some (bt140.1, bt140.2)))) = some (r1, r2) := by rw [if_pos rfl] at H; exact H
              clear H
              have H := H1
              clear H1
              replace H := Option.bind_eq_some_iff.mp H
              obtain ⟨⟨t138, t139⟩, A270, H⟩ := H
              replace H : ((wide_Add.f t133 t134 t138 t139).bind fun bt140 => (some (bt140.1, bt140.2))) = some (r1, r2) := H
              have A27 := Aside0.mk A270
              clear A270
              replace H := Option.bind_eq_some_iff.mp H
              obtain ⟨⟨t140, t141⟩, A280, H⟩ := H
              replace H : (some (t140, t141)) = some (r1, r2) := H
              have A28 := Aside0.mk A280
              clear A280
              simp only [Option.some.injEq, Prod.mk.injEq] at H
              obtain ⟨rfl, rfl⟩ := H
              try go_wp2
              have n0_ := Aside0.mk (blk_drew BK131.out)
              have n1_ := Aside0.mk (blk_drew BK132.out)
              have n2_ := Aside0.mk (blk_drew BK137.out)
              have n3_ := Aside0.mk (below_drew1 HB.out)
              clear BK131
              clear BK132
              clear BK137
              clear HB
              have BK131 := n0_
              have BK132 := n1_
              have BK137 := n2_
              have HB := n3_
              clear n0_ n1_ n2_ n3_
              refine start_ (n := 4) (S := fun w' => w'.cell? ⟨gb137, 0, none⟩ = some (.int .i64 t133) ∧ w'.cell? ⟨gb137, 1, none⟩ = some (.int .u64 t134)) (ds := []) #[false, false, false, false] (by kernel_rfl) rfl rfl ⟨(blk_cell BK137.out 0).trans rfl, (blk_cell BK137.out 1).trans rfl⟩ (fun hHeld => ?_)
              generalize wc.drew = w29 at BK131 BK132 BK137 HB hHeld ⊢
              refine take_ (i := 0) (N := some 38) (v := ?_) (a' := ?_) #[true, false, false, false] rfl rfl (by kernel_rfl) (fun _ _ _ h => h) (Or.inl ⟨by rfl, ?_⟩) hHeld ?_ ?_
              rotate_left
              · rintro w' ⟨s0, s1⟩
                go_simp
                with_reducible rfl
              rotate_left
              · simp only [Act.put, List.setIfInBounds_toArray, List.set_cons_zero, List.set_cons_succ, i64_w, i32_w]
                rfl
              refine one_ (i := 1) (N := some 39) #[true, true, false, false] rfl rfl (by kernel_rfl) (by decide) (fun K hK => ?_)
              refine goes_ Try.func14 (by kernel_rfl) rfl #[.int .i64 1] (by rfl) rfl rfl (by (try simp only [List.map_toArray, List.map_cons, List.map_nil]); first | done | rfl | (simp only [List.length_drop, List.length_take]; rfl)) ?_
              with_reducible refine (wide_Of.calls 1 t138 t139 _ A27.out).mono ?_
              rintro e w30 ⟨rfl, hb⟩
              refine ⟨_, rfl, ?_⟩
              have n0_ := Aside0.mk (blk_below (g := gb131) (o := .cells #[.int .i64 a0_0, .int .u64 a0_1] 25 (0, 0)) (by (with_reducible repeat (first | refine blk_drewN ?_ _ | refine blk_drew ?_ | refine blk_alloc ?_ _)); exact BK131.out) hb)
              have n1_ := Aside0.mk (blk_below (g := gb132) (o := .cells #[.int .i64 0, .int .u64 0] 25 (0, 0)) (by (with_reducible repeat (first | refine blk_drewN ?_ _ | refine blk_drew ?_ | refine blk_alloc ?_ _)); exact BK132.out) hb)
              have n2_ := Aside0.mk (blk_below (g := gb137) (o := .cells #[.int .i64 t133, .int .u64 t134] 25 (0, 0)) (by (with_reducible repeat (first | refine blk_drewN ?_ _ | refine blk_drew ?_ | refine blk_alloc ?_ _)); exact BK137.out) hb)
              have n3_ := Aside0.mk (below_step (by repeat (first | (with_reducible first | exact HB.out | apply below_alloc | apply pw_below_drewN | apply below_drew1 | refine below_set ?_ GE131.out | refine below_set ?_ GE132.out | refine below_set ?_ GE137.out) | exact HB.out)) hb)
              clear BK131
              clear BK132
              clear BK137
              clear HB
              have BK131 := n0_
              have BK132 := n1_
              have BK137 := n2_
              have HB := n3_
              clear n0_ n1_ n2_ n3_
              (try clear hb)
              (try clear hb2)
              (try clear hk)
              (try clear hi)
              refine hK.out _ _ ⟨(blk_cell BK137.out 0).trans rfl, (blk_cell BK137.out 1).trans rfl⟩ (fun hHeld => ?_)
              clear hK K
              refine norm_ (a' := ?_) ?_ ?_
              rotate_left
              · show Act.put _ (some 39) _ = _
                simp only [Act.put, List.setIfInBounds_toArray, List.set_cons_zero, List.set_cons_succ, i64_w, i32_w]
                rfl
              refine one_ (i := 2) (N := some 40) #[true, true, true, false] rfl rfl (by kernel_rfl) (by decide) (fun K hK => ?_)
              refine goes_ Try.func17 (by kernel_rfl) rfl #[.agg #[.int .i64 t133, .int .u64 t134], .agg #[.int .i64 t138, .int .u64 t139]] (by rfl) rfl rfl (by (try simp only [List.map_toArray, List.map_cons, List.map_nil]); first | done | rfl | (simp only [List.length_drop, List.length_take]; rfl)) ?_
              with_reducible refine (wide_Add.calls t133 t134 t138 t139 t140 t141 _ A28.out).mono ?_
              rintro e w31 ⟨rfl, hb⟩
              refine ⟨_, rfl, ?_⟩
              have n0_ := Aside0.mk (blk_below (g := gb131) (o := .cells #[.int .i64 a0_0, .int .u64 a0_1] 25 (0, 0)) (by (with_reducible repeat (first | refine blk_drewN ?_ _ | refine blk_drew ?_ | refine blk_alloc ?_ _)); exact BK131.out) hb)
              have n1_ := Aside0.mk (blk_below (g := gb132) (o := .cells #[.int .i64 0, .int .u64 0] 25 (0, 0)) (by (with_reducible repeat (first | refine blk_drewN ?_ _ | refine blk_drew ?_ | refine blk_alloc ?_ _)); exact BK132.out) hb)
              have n2_ := Aside0.mk (blk_below (g := gb137) (o := .cells #[.int .i64 t133, .int .u64 t134] 25 (0, 0)) (by (with_reducible repeat (first | refine blk_drewN ?_ _ | refine blk_drew ?_ | refine blk_alloc ?_ _)); exact BK137.out) hb)
              have n3_ := Aside0.mk (below_step (by repeat (first | (with_reducible first | exact HB.out | apply below_alloc | apply pw_below_drewN | apply below_drew1 | refine below_set ?_ GE131.out | refine below_set ?_ GE132.out | refine below_set ?_ GE137.out) | exact HB.out)) hb)
              clear BK131
              clear BK132
              clear BK137
              clear HB
              have BK131 := n0_
              have BK132 := n1_
              have BK137 := n2_
              have HB := n3_
              clear n0_ n1_ n2_ n3_
              (try clear hb)
              (try clear hb2)
              (try clear hk)
              (try clear hi)
              refine hK.out _ _ ⟨(blk_cell BK137.out 0).trans rfl, (blk_cell BK137.out 1).trans rfl⟩ (fun hHeld => ?_)
              clear hK K
              refine norm_ (a' := ?_) ?_ ?_
              rotate_left
              · show Act.put _ (some 40) _ = _
                simp only [Act.put, List.setIfInBounds_toArray, List.set_cons_zero, List.set_cons_succ, i64_w, i32_w]
                rfl
              refine one_ (i := 3) (N := none) #[true, true, true, true] rfl rfl (by kernel_rfl) (by decide) (fun K hK => ?_)
              have hs32 : w31.cell? ⟨gb132, 0, none⟩ = some (.int .i64 0) := (blk_cell BK132.out 0).trans rfl
              have hfs32 := blk_frozen BK132.out 0
              have hns32_0 := NB131_132.out
              have hns32_2 := NB137_132.out
              have hms32_0 := NB132_131.out
              have hms32_2 := NB132_137.out
              have hs33 : w31.cell? ⟨gb132, 1, none⟩ = some (.int .u64 0) := (blk_cell BK132.out 1).trans rfl
              have hfs33 := blk_frozen BK132.out 1
              have hns33_0 := NB131_132.out
              have hns33_2 := NB137_132.out
              have hms33_0 := NB132_131.out
              have hms33_2 := NB132_137.out
              refine skip_ (w1 := ?_) (by rfl) rfl ?_ ?_
              rotate_left
              · go_simp
                rfl
              refine hK.out _ _ ⟨((cell_far (p := ⟨gb132, _, none⟩) NB137_132.out _).trans (((cell_far (p := ⟨gb132, _, none⟩) NB137_132.out _).trans (hHeld.1)))), ((cell_far (p := ⟨gb132, _, none⟩) NB137_132.out _).trans (((cell_far (p := ⟨gb132, _, none⟩) NB137_132.out _).trans (hHeld.2))))⟩ (fun hHeld => ?_)
              clear hK K
              refine done_ (by kernel_rfl) ?_
              try go_wp2
              refine bodyPost_ret (results_cell_row rfl _ _ gb132 25 #[.int .i64 t140, .int .u64 t141] (0, 0) _ rfl (by (with_reducible repeat (first | refine blk_drewN ?_ _ | refine blk_drew ?_ | refine blk_alloc ?_ _)); refine blk_put (cs := #[.int .i64 t140, .int .u64 0]) ?_ 1 _ rfl; (with_reducible repeat (first | refine blk_drewN ?_ _ | refine blk_drew ?_ | refine blk_alloc ?_ _)); refine blk_put (cs := #[.int .i64 0, .int .u64 0]) ?_ 0 _ rfl; (with_reducible repeat (first | refine blk_drewN ?_ _ | refine blk_drew ?_ | refine blk_alloc ?_ _)); exact BK132.out) Try.underlying25 rfl (by kernel_rfl)) rfl ?_
              exact ⟨by first | rfl | (simp [errW_none, errW_some] <;> rfl) | (simp [*, errW_none, errW_some] <;> rfl), by repeat (first | (with_reducible first | exact HB.out | apply below_alloc | apply pw_below_drewN | apply below_drew1 | refine below_set ?_ GE131.out | refine below_set ?_ GE132.out | refine below_set ?_ GE137.out) | exact HB.out)⟩
            · replace c26 := Bool.eq_false_iff.mpr c26
              subst c26
              have H1 : (some (t133, t134)) = some (r1, r2) := by rw [if_neg (show ¬ (false = true) by decide)] at H; exact H
              clear H
              have H := H1
              clear H1
              simp only [Option.some.injEq, Prod.mk.injEq] at H
              obtain ⟨rfl, rfl⟩ := H
              have hnb34 := NB137_131.out
              have hnc34 := NB131_137.out
              have hnb35 := NB137_132.out
              have hnc35 := NB132_137.out
              have hcz36_0 : wc.cell? ⟨gb137, 0, none⟩ = some (.int .i64 t133) := (blk_cell BK137.out 0).trans rfl
              have hcz36_1 : wc.cell? ⟨gb137, 1, none⟩ = some (.int .u64 t134) := (blk_cell BK137.out 1).trans rfl
              have hfz36_0 := blk_frozen BK137.out 0
              have hfz36_1 := blk_frozen BK137.out 1
              have hnb37 := NB132_131.out
              have hnc37 := NB131_132.out
              have hcz38_0 : wc.cell? ⟨gb132, 0, none⟩ = some (.int .i64 0) := (blk_cell BK132.out 0).trans rfl
              have hcz38_1 : wc.cell? ⟨gb132, 1, none⟩ = some (.int .u64 0) := (blk_cell BK132.out 1).trans rfl
              have hfz38_0 := blk_frozen BK132.out 0
              have hfz38_1 := blk_frozen BK132.out 1
              go_wp2
              refine bodyPost_ret (results_cell_row rfl _ _ gb132 25 #[.int .i64 t133, .int .u64 t134] (0, 0) _ rfl (by (with_reducible repeat (first | refine blk_drewN ?_ _ | refine blk_drew ?_ | refine blk_alloc ?_ _)); refine blk_put (cs := #[.int .i64 t133, .int .u64 0]) ?_ 1 _ rfl; (with_reducible repeat (first | refine blk_drewN ?_ _ | refine blk_drew ?_ | refine blk_alloc ?_ _)); refine blk_put (cs := #[.int .i64 0, .int .u64 0]) ?_ 0 _ rfl; (with_reducible repeat (first | refine blk_drewN ?_ _ | refine blk_drew ?_ | refine blk_alloc ?_ _)); exact BK132.out) Try.underlying25 rfl (by kernel_rfl)) rfl ?_
              exact ⟨by first | rfl | (simp [errW_none, errW_some] <;> rfl) | (simp [*, errW_none, errW_some] <;> rfl), by repeat (first | (with_reducible first | exact HB.out | apply below_alloc | apply pw_below_drewN | apply below_drew1 | refine below_set ?_ GE131.out | refine below_set ?_ GE132.out | refine below_set ?_ GE137.out) | exact HB.out)⟩

/-! ### carousellaw2_awake: function 11 -/
def carousellaw2_awake.f (k : Nat)  : Option (Bool) := (wide_Prod.f 4611686018427387904 4).bind fun bt142 => (if (bt142.1 == 1 && (bt142.2 == 0)) = true then ((wide_Of.f 3).bind fun bt144 => ((wide_Shift.f k bt144.1 bt144.2 1).bind fun bt146 => ((wide_Of.f 2).bind fun bt148 => (if (bt146.1 == bt148.1 && (bt146.2 == bt148.2)) = true then ((wide_Of.f (-1)).bind fun bt150 => (some (bt150.1 == (-1) && (bt150.2 == 18446744073709551615)))) else (none))))) else (none))
theorem carousellaw2_awake.mono : ∀ k, LeO (carousellaw2_awake.f k ) (carousellaw2_awake.f (k + 1) ) := by
  intro  k
  unfold carousellaw2_awake.f
  repeat' first
      | (with_reducible exact wide_Shift.mono _ _ _ _)
      | (with_reducible exact LeO.refl _)
      | (with_reducible exact LeO.none _)
      | (with_reducible refine LeO.ite ?_ ?_)
      | (with_reducible refine LeO.bind ?_ (fun _ => ?_))
      | exact wide_Shift.mono _ _ _ _
      | exact LeO.none _
      | refine LeO.ite ?_ ?_
      | refine LeO.bind ?_ (fun _ => ?_)
set_option maxHeartbeats 8000000 in
set_option maxRecDepth 100000 in
theorem carousellaw2_awake.calls (k : Nat)  (r : Bool) (w : World) (h : carousellaw2_awake.f k  = some r) :
    Calls Try.prog 11 #[] w fun e w' => e = .returned (.bool r) ∧ Below w.heap.size w w' := by
  have hu25 := Try.underlying25
  have HB := Aside0.mk (Below.refl w.heap.size w)
  have H : ((wide_Prod.f 4611686018427387904 4).bind fun bt142 => (if (bt142.1 == 1 && (bt142.2 == 0)) = true then ((wide_Of.f 3).bind fun bt144 => ((wide_Shift.f k bt144.1 bt144.2 1).bind fun bt146 => ((wide_Of.f 2).bind fun bt148 => (if (bt146.1 == bt148.1 && (bt146.2 == bt148.2)) = true then ((wide_Of.f (-1)).bind fun bt150 => (some (bt150.1 == (-1) && (bt150.2 == 18446744073709551615)))) else (none))))) else (none))) = some r := h
  clear h
  replace H := Option.bind_eq_some_iff.mp H
  obtain ⟨⟨t142, t143⟩, A10, H⟩ := H
  replace H : (if (t142 == 1 && (t143 == 0)) = true then ((wide_Of.f 3).bind fun bt144 => ((wide_Shift.f k bt144.1 bt144.2 1).bind fun bt146 => ((wide_Of.f 2).bind fun bt148 => (if (bt146.1 == bt148.1 && (bt146.2 == bt148.2)) = true then ((wide_Of.f (-1)).bind fun bt150 => (some (bt150.1 == (-1) && (bt150.2 == 18446744073709551615)))) else (none))))) else (none)) = some r := H
  have A1 := Aside0.mk A10
  clear A10
  by_cases c2 : (t142 == 1 && (t143 == 0)) = true
  · rw [if_pos c2] at H
    have c2b0 : (t142 == 1 && (t143 == 0)) = true := c2
    (try (have c2b1 : decide (t142 = 1 && (t143 == 0)) = true := by simpa using c2))
    (try (have c2b2 : (t142 == 1 && (t143 == 0)) = true := by simpa using c2))
    clear c2
    replace H := Option.bind_eq_some_iff.mp H
    obtain ⟨⟨t144, t145⟩, A30, H⟩ := H
    replace H : ((wide_Shift.f k t144 t145 1).bind fun bt146 => ((wide_Of.f 2).bind fun bt148 => (if (bt146.1 == bt148.1 && (bt146.2 == bt148.2)) = true then ((wide_Of.f (-1)).bind fun bt150 => (some (bt150.1 == (-1) && (bt150.2 == 18446744073709551615)))) else (none)))) = some r := H
    have A3 := Aside0.mk A30
    clear A30
    replace H := Option.bind_eq_some_iff.mp H
    obtain ⟨⟨t146, t147⟩, A40, H⟩ := H
    replace H : ((wide_Of.f 2).bind fun bt148 => (if (t146 == bt148.1 && (t147 == bt148.2)) = true then ((wide_Of.f (-1)).bind fun bt150 => (some (bt150.1 == (-1) && (bt150.2 == 18446744073709551615)))) else (none))) = some r := H
    have A4 := Aside0.mk A40
    clear A40
    replace H := Option.bind_eq_some_iff.mp H
    obtain ⟨⟨t148, t149⟩, A50, H⟩ := H
    replace H : (if (t146 == t148 && (t147 == t149)) = true then ((wide_Of.f (-1)).bind fun bt150 => (some (bt150.1 == (-1) && (bt150.2 == 18446744073709551615)))) else (none)) = some r := H
    have A5 := Aside0.mk A50
    clear A50
    by_cases c6 : (t146 == t148 && (t147 == t149)) = true
    · rw [if_pos c6] at H
      have c6b0 : (t146 == t148 && (t147 == t149)) = true := c6
      (try (have c6b1 : decide (t146 = t148 && (t147 == t149)) = true := by simpa using c6))
      (try (have c6b2 : (t146 == t148 && (t147 == t149)) = true := by simpa using c6))
      clear c6
      replace H := Option.bind_eq_some_iff.mp H
      obtain ⟨⟨t150, t151⟩, A70, H⟩ := H
      replace H : (some (t150 == (-1) && (t151 == 18446744073709551615))) = some r := H
      have A7 := Aside0.mk A70
      clear A70
      obtain rfl := Option.some.inj H
      go_enter Try.func11, Try.ntmps11
      go_wp2_with (first | ((with_reducible refine gate_callee (f := 12) rfl ?_); refine goesL_ (some 1) rfl rfl Try.func12 (by kernel_rfl) rfl #[.int .i64 4611686018427387904, .int .i64 4] rfl (by (try simp only [List.map_toArray, List.map_cons, List.map_nil]); first | done | rfl | (simp only [List.length_drop, List.length_take]; rfl)) ?_; (with_reducible refine (wide_Prod.calls 4611686018427387904 4 t142 t143 _ A1.out).mono ?_); rintro e w8 ⟨rfl, hb⟩; refine ⟨_, rfl, ?_⟩; have n0_ := Aside0.mk (below_step (by repeat (first | (with_reducible first | exact HB.out | apply below_alloc | apply pw_below_drewN | apply below_drew1) | exact HB.out)) hb); clear HB; have HB := n0_; clear n0_; (try clear hb); (try clear hb2); (try clear hk); (try clear hi)) | (go_at_call 14; (with_reducible refine (wide_Of.calls 3 t144 t145 _ A3.out).mono ?_); rintro e w9 ⟨rfl, hb⟩; have n0_ := Aside0.mk (below_step (by repeat (first | (with_reducible first | exact HB.out | apply below_alloc | apply pw_below_drewN | apply below_drew1) | exact HB.out)) hb); clear HB; have HB := n0_; clear n0_; (try clear hb); (try clear hb2); (try clear hk); (try clear hi)) | (go_at_call 23; (with_reducible refine (wide_Shift.calls k t144 t145 1 t146 t147 _ A4.out).mono ?_); rintro e w10 ⟨rfl, hb⟩; have n0_ := Aside0.mk (below_step (by repeat (first | (with_reducible first | exact HB.out | apply below_alloc | apply pw_below_drewN | apply below_drew1) | exact HB.out)) hb); clear HB; have HB := n0_; clear n0_; (try clear hb); (try clear hb2); (try clear hk); (try clear hi)) | (go_at_call 14; (with_reducible refine (wide_Of.calls 2 t148 t149 _ A5.out).mono ?_); rintro e w11 ⟨rfl, hb⟩; have n0_ := Aside0.mk (below_step (by repeat (first | (with_reducible first | exact HB.out | apply below_alloc | apply pw_below_drewN | apply below_drew1) | exact HB.out)) hb); clear HB; have HB := n0_; clear n0_; (try clear hb); (try clear hb2); (try clear hk); (try clear hi)) | (go_at_call 14; (with_reducible refine (wide_Of.calls (-1) t150 t151 _ A7.out).mono ?_); rintro e w12 ⟨rfl, hb⟩; have n0_ := Aside0.mk (below_step (by repeat (first | (with_reducible first | exact HB.out | apply below_alloc | apply pw_below_drewN | apply below_drew1) | exact HB.out)) hb); clear HB; have HB := n0_; clear n0_; (try clear hb); (try clear hb2); (try clear hk); (try clear hi)))
      go_ret
      exact ⟨by first | rfl | (simp [errW_none, errW_some] <;> rfl) | (simp [*, errW_none, errW_some] <;> rfl), by repeat (first | (with_reducible first | exact HB.out | apply below_alloc | apply pw_below_drewN | apply below_drew1) | exact HB.out)⟩
    · rw [if_neg c6] at H
      exact absurd H (by simp)
  · rw [if_neg c2] at H
    exact absurd H (by simp)

/-! ### carouselref1_Wide: function 15 -/
def carouselref1_Wide.f (a0_0 : Bool) (a0_1 : Int) (a0_2 : Int) (a0_3 : Int) (a0_4 : Int) : Option (Int × Int) := if a0_0 = true then (if (IntKind.u64.wrap ((Go.bits .xor .u64 18446744073709551615 a0_1) + 1)) = 0 then (some (wrap64 (IntKind.u64.wrap ((Go.bits .xor .u64 18446744073709551615 a0_2) + 1)), IntKind.u64.wrap ((Go.bits .xor .u64 18446744073709551615 a0_1) + 1))) else (some (wrap64 (Go.bits .xor .u64 18446744073709551615 a0_2), IntKind.u64.wrap ((Go.bits .xor .u64 18446744073709551615 a0_1) + 1)))) else (some (wrap64 (a0_2), a0_1))
set_option maxHeartbeats 8000000 in
set_option maxRecDepth 100000 in
theorem carouselref1_Wide.calls (a0_0 : Bool) (a0_1 : Int) (a0_2 : Int) (a0_3 : Int) (a0_4 : Int) (r1 : Int) (r2 : Int) (w : World) (h : carouselref1_Wide.f a0_0 a0_1 a0_2 a0_3 a0_4 = some (r1, r2)) :
    Calls Try.prog 15 #[.agg #[.bool a0_0, .int .u64 a0_1, .int .u64 a0_2, .int .u64 a0_3, .int .u64 a0_4]] w fun e w' => e = .returned (.agg #[.int .i64 r1, .int .u64 r2]) ∧ Below w.heap.size w w' := by
  have hu31 := Try.underlying31
  have hu25 := Try.underlying25
  have HB := Aside0.mk (Below.refl w.heap.size w)
  have H : (if a0_0 = true then (if (IntKind.u64.wrap ((Go.bits .xor .u64 18446744073709551615 a0_1) + 1)) = 0 then (some (wrap64 (IntKind.u64.wrap ((Go.bits .xor .u64 18446744073709551615 a0_2) + 1)), IntKind.u64.wrap ((Go.bits .xor .u64 18446744073709551615 a0_1) + 1))) else (some (wrap64 (Go.bits .xor .u64 18446744073709551615 a0_2), IntKind.u64.wrap ((Go.bits .xor .u64 18446744073709551615 a0_1) + 1)))) else (some (wrap64 (a0_2), a0_1))) = some (r1, r2) := h
  clear h
  by_cases c2 : a0_0 = true
  · subst c2
    have H1 : (if (IntKind.u64.wrap ((Go.bits .xor .u64 18446744073709551615 a0_1) + 1)) = 0 then (some (wrap64 (IntKind.u64.wrap ((Go.bits .xor .u64 18446744073709551615 a0_2) + 1)), IntKind.u64.wrap ((Go.bits .xor .u64 18446744073709551615 a0_1) + 1))) else (some (wrap64 (Go.bits .xor .u64 18446744073709551615 a0_2), IntKind.u64.wrap ((Go.bits .xor .u64 18446744073709551615 a0_1) + 1)))) = some (r1, r2) := by rw [if_pos rfl] at H; exact H
    clear H
    have H := H1
    clear H1
    by_cases c3 : (IntKind.u64.wrap ((Go.bits .xor .u64 18446744073709551615 a0_1) + 1)) = 0
    · rw [if_pos c3] at H
      have c3b0 : ((IntKind.u64.wrap ((Go.bits .xor .u64 18446744073709551615 a0_1) + 1)) == 0) = true := beq_iff_eq.mpr c3
      have c3b1 : ((IntKind.u64.wrap ((Go.bits .xor .u64 18446744073709551615 a0_1) + 1)) != 0) = false := bne_eq_false_iff_eq.mpr c3
      clear c3
      simp only [Option.some.injEq, Prod.mk.injEq] at H
      obtain ⟨rfl, rfl⟩ := H
      go_enter Try.func15, Try.ntmps15
      go_wp2_with (first | ((with_reducible refine gate_dst (N := 1) rfl ?_); refine box_event ?hg (N := 1) ?hd (cs := #[.bool true, .int .u64 a0_1, .int .u64 a0_2, .int .u64 a0_3, .int .u64 a0_4]) (t := 31) ?hr ?_; (case hd => rfl); (case hg => rfl); (case hr => first | (go_simp; done) | (go_simp; rfl)); intro gb152 hg w4 hbox hb; have n0_ := Aside0.mk (below_step (by repeat (first | (with_reducible first | exact HB.out | apply below_alloc | apply pw_below_drewN | apply below_drew1) | exact HB.out)) hb); have n1_ := Aside0.mk (hbox); have n2_ := Aside0.mk ((by rw [hg]; exact (below_size (by repeat (first | (with_reducible first | exact HB.out | apply below_alloc | apply pw_below_drewN | apply below_drew1) | exact HB.out))) : w.heap.size ≤ gb152)); have n3_ := Aside0.mk ((by rw [hg]; exact (below_size (by repeat (first | (with_reducible first | exact HB.out | apply below_alloc | apply pw_below_drewN | apply below_drew1) | exact HB.out))) : w.heap.size ≤ gb152)); clear HB; have HB := n0_; have BK152 := n1_; have GW152 := n2_; have GE152 := n3_; clear n0_ n1_ n2_ n3_; clear hb hbox hg) | ((with_reducible refine gate_dst (N := 2) rfl ?_); refine box_event ?hg (N := 2) ?hd (cs := #[.int .i64 0, .int .u64 0]) (t := 25) ?hr ?_; (case hd => rfl); (case hg => rfl); (case hr => first | (go_simp; done) | (go_simp; rfl)); intro gb153 hg w5 hbox hb; have n0_ := Aside0.mk (blk_below (g := gb152) (o := .cells #[.bool true, .int .u64 a0_1, .int .u64 a0_2, .int .u64 a0_3, .int .u64 a0_4] 31 (0, 0)) (by (with_reducible repeat (first | refine blk_drewN ?_ _ | refine blk_drew ?_ | refine blk_alloc ?_ _)); exact BK152.out) hb); have n1_ := Aside0.mk (below_step (by repeat (first | (with_reducible first | exact HB.out | apply below_alloc | apply pw_below_drewN | apply below_drew1 | refine below_set ?_ GE152.out) | exact HB.out)) hb); have n2_ := Aside0.mk (hbox); have n3_ := Aside0.mk ((by rw [hg]; exact (below_size (by repeat (first | (with_reducible first | exact HB.out | apply below_alloc | apply pw_below_drewN | apply below_drew1 | refine below_set ?_ GE152.out) | exact HB.out))) : w.heap.size ≤ gb153)); have n4_ := Aside0.mk ((by rw [hg]; exact (below_size (by repeat (first | (with_reducible first | exact HB.out | apply below_alloc | apply pw_below_drewN | apply below_drew1 | refine below_set ?_ GE152.out) | exact HB.out))) : w.heap.size ≤ gb153)); have n5_ := Aside0.mk ((by rw [hg]; exact Nat.ne_of_lt (blk_lt (g := gb152) (o := .cells #[.bool true, .int .u64 a0_1, .int .u64 a0_2, .int .u64 a0_3, .int .u64 a0_4] 31 (0, 0)) (by (with_reducible repeat (first | refine blk_drewN ?_ _ | refine blk_drew ?_ | refine blk_alloc ?_ _)); exact BK152.out)) : gb152 ≠ gb153)); have n6_ := Aside0.mk ((by rw [hg]; exact Nat.ne_of_gt (blk_lt (g := gb152) (o := .cells #[.bool true, .int .u64 a0_1, .int .u64 a0_2, .int .u64 a0_3, .int .u64 a0_4] 31 (0, 0)) (by (with_reducible repeat (first | refine blk_drewN ?_ _ | refine blk_drew ?_ | refine blk_alloc ?_ _)); exact BK152.out)) : gb153 ≠ gb152)); clear BK152; clear HB; have BK152 := n0_; have HB := n1_; have BK153 := n2_; have GW153 := n3_; have GE153 := n4_; have NB152_153 := n5_; have NB153_152 := n6_; clear n0_ n1_ n2_ n3_ n4_ n5_ n6_; clear hb hbox hg; have hnb6 := NB152_153.out; have hnc6 := NB153_152.out; have hcz7_0 : w5.cell? ⟨gb152, 0, none⟩ = some (.bool true) := (blk_cell BK152.out 0).trans rfl; have hcz7_1 : w5.cell? ⟨gb152, 1, none⟩ = some (.int .u64 a0_1) := (blk_cell BK152.out 1).trans rfl; have hcz7_2 : w5.cell? ⟨gb152, 2, none⟩ = some (.int .u64 a0_2) := (blk_cell BK152.out 2).trans rfl; have hcz7_3 : w5.cell? ⟨gb152, 3, none⟩ = some (.int .u64 a0_3) := (blk_cell BK152.out 3).trans rfl; have hcz7_4 : w5.cell? ⟨gb152, 4, none⟩ = some (.int .u64 a0_4) := (blk_cell BK152.out 4).trans rfl; have hfz7_0 := blk_frozen BK152.out 0; have hfz7_1 := blk_frozen BK152.out 1; have hfz7_2 := blk_frozen BK152.out 2; have hfz7_3 := blk_frozen BK152.out 3; have hfz7_4 := blk_frozen BK152.out 4; have hcz8_0 : w5.cell? ⟨gb153, 0, none⟩ = some (.int .i64 0) := (blk_cell BK153.out 0).trans rfl; have hcz8_1 : w5.cell? ⟨gb153, 1, none⟩ = some (.int .u64 0) := (blk_cell BK153.out 1).trans rfl; have hfz8_0 := blk_frozen BK153.out 0; have hfz8_1 := blk_frozen BK153.out 1))
      repeat (go_quiet (first | ((with_reducible refine gate_dst (N := 1) rfl ?_); refine box_event ?hg (N := 1) ?hd (cs := #[.bool true, .int .u64 a0_1, .int .u64 a0_2, .int .u64 a0_3, .int .u64 a0_4]) (t := 31) ?hr ?_; (case hd => rfl); (case hg => rfl); (case hr => first | (go_simp; done) | (go_simp; rfl)); intro gb152 hg w4 hbox hb; have n0_ := Aside0.mk (below_step (by repeat (first | (with_reducible first | exact HB.out | apply below_alloc | apply pw_below_drewN | apply below_drew1) | exact HB.out)) hb); have n1_ := Aside0.mk (hbox); have n2_ := Aside0.mk ((by rw [hg]; exact (below_size (by repeat (first | (with_reducible first | exact HB.out | apply below_alloc | apply pw_below_drewN | apply below_drew1) | exact HB.out))) : w.heap.size ≤ gb152)); have n3_ := Aside0.mk ((by rw [hg]; exact (below_size (by repeat (first | (with_reducible first | exact HB.out | apply below_alloc | apply pw_below_drewN | apply below_drew1) | exact HB.out))) : w.heap.size ≤ gb152)); clear HB; have HB := n0_; have BK152 := n1_; have GW152 := n2_; have GE152 := n3_; clear n0_ n1_ n2_ n3_; clear hb hbox hg) | ((with_reducible refine gate_dst (N := 2) rfl ?_); refine box_event ?hg (N := 2) ?hd (cs := #[.int .i64 0, .int .u64 0]) (t := 25) ?hr ?_; (case hd => rfl); (case hg => rfl); (case hr => first | (go_simp; done) | (go_simp; rfl)); intro gb153 hg w5 hbox hb; have n0_ := Aside0.mk (blk_below (g := gb152) (o := .cells #[.bool true, .int .u64 a0_1, .int .u64 a0_2, .int .u64 a0_3, .int .u64 a0_4] 31 (0, 0)) (by (with_reducible repeat (first | refine blk_drewN ?_ _ | refine blk_drew ?_ | refine blk_alloc ?_ _)); exact BK152.out) hb); have n1_ := Aside0.mk (below_step (by repeat (first | (with_reducible first | exact HB.out | apply below_alloc | apply pw_below_drewN | apply below_drew1 | refine below_set ?_ GE152.out) | exact HB.out)) hb); have n2_ := Aside0.mk (hbox); have n3_ := Aside0.mk ((by rw [hg]; exact (below_size (by repeat (first | (with_reducible first | exact HB.out | apply below_alloc | apply pw_below_drewN | apply below_drew1 | refine below_set ?_ GE152.out) | exact HB.out))) : w.heap.size ≤ gb153)); have n4_ := Aside0.mk ((by rw [hg]; exact (below_size (by repeat (first | (with_reducible first | exact HB.out | apply below_alloc | apply pw_below_drewN | apply below_drew1 | refine below_set ?_ GE152.out) | exact HB.out))) : w.heap.size ≤ gb153)); have n5_ := Aside0.mk ((by rw [hg]; exact Nat.ne_of_lt (blk_lt (g := gb152) (o := .cells #[.bool true, .int .u64 a0_1, .int .u64 a0_2, .int .u64 a0_3, .int .u64 a0_4] 31 (0, 0)) (by (with_reducible repeat (first | refine blk_drewN ?_ _ | refine blk_drew ?_ | refine blk_alloc ?_ _)); exact BK152.out)) : gb152 ≠ gb153)); have n6_ := Aside0.mk ((by rw [hg]; exact Nat.ne_of_gt (blk_lt (g := gb152) (o := .cells #[.bool true, .int .u64 a0_1, .int .u64 a0_2, .int .u64 a0_3, .int .u64 a0_4] 31 (0, 0)) (by (with_reducible repeat (first | refine blk_drewN ?_ _ | refine blk_drew ?_ | refine blk_alloc ?_ _)); exact BK152.out)) : gb153 ≠ gb152)); clear BK152; clear HB; have BK152 := n0_; have HB := n1_; have BK153 := n2_; have GW153 := n3_; have GE153 := n4_; have NB152_153 := n5_; have NB153_152 := n6_; clear n0_ n1_ n2_ n3_ n4_ n5_ n6_; clear hb hbox hg; have hnb6 := NB152_153.out; have hnc6 := NB153_152.out; have hcz7_0 : w5.cell? ⟨gb152, 0, none⟩ = some (.bool true) := (blk_cell BK152.out 0).trans rfl; have hcz7_1 : w5.cell? ⟨gb152, 1, none⟩ = some (.int .u64 a0_1) := (blk_cell BK152.out 1).trans rfl; have hcz7_2 : w5.cell? ⟨gb152, 2, none⟩ = some (.int .u64 a0_2) := (blk_cell BK152.out 2).trans rfl; have hcz7_3 : w5.cell? ⟨gb152, 3, none⟩ = some (.int .u64 a0_3) := (blk_cell BK152.out 3).trans rfl; have hcz7_4 : w5.cell? ⟨gb152, 4, none⟩ = some (.int .u64 a0_4) := (blk_cell BK152.out 4).trans rfl; have hfz7_0 := blk_frozen BK152.out 0; have hfz7_1 := blk_frozen BK152.out 1; have hfz7_2 := blk_frozen BK152.out 2; have hfz7_3 := blk_frozen BK152.out 3; have hfz7_4 := blk_frozen BK152.out 4; have hcz8_0 : w5.cell? ⟨gb153, 0, none⟩ = some (.int .i64 0) := (blk_cell BK153.out 0).trans rfl; have hcz8_1 : w5.cell? ⟨gb153, 1, none⟩ = some (.int .u64 0) := (blk_cell BK153.out 1).trans rfl; have hfz8_0 := blk_frozen BK153.out 0; have hfz8_1 := blk_frozen BK153.out 1)); try go_wp2_with (first | ((with_reducible refine gate_dst (N := 1) rfl ?_); refine box_event ?hg (N := 1) ?hd (cs := #[.bool true, .int .u64 a0_1, .int .u64 a0_2, .int .u64 a0_3, .int .u64 a0_4]) (t := 31) ?hr ?_; (case hd => rfl); (case hg => rfl); (case hr => first | (go_simp; done) | (go_simp; rfl)); intro gb152 hg w4 hbox hb; have n0_ := Aside0.mk (below_step (by repeat (first | (with_reducible first | exact HB.out | apply below_alloc | apply pw_below_drewN | apply below_drew1) | exact HB.out)) hb); have n1_ := Aside0.mk (hbox); have n2_ := Aside0.mk ((by rw [hg]; exact (below_size (by repeat (first | (with_reducible first | exact HB.out | apply below_alloc | apply pw_below_drewN | apply below_drew1) | exact HB.out))) : w.heap.size ≤ gb152)); have n3_ := Aside0.mk ((by rw [hg]; exact (below_size (by repeat (first | (with_reducible first | exact HB.out | apply below_alloc | apply pw_below_drewN | apply below_drew1) | exact HB.out))) : w.heap.size ≤ gb152)); clear HB; have HB := n0_; have BK152 := n1_; have GW152 := n2_; have GE152 := n3_; clear n0_ n1_ n2_ n3_; clear hb hbox hg) | ((with_reducible refine gate_dst (N := 2) rfl ?_); refine box_event ?hg (N := 2) ?hd (cs := #[.int .i64 0, .int .u64 0]) (t := 25) ?hr ?_; (case hd => rfl); (case hg => rfl); (case hr => first | (go_simp; done) | (go_simp; rfl)); intro gb153 hg w5 hbox hb; have n0_ := Aside0.mk (blk_below (g := gb152) (o := .cells #[.bool true, .int .u64 a0_1, .int .u64 a0_2, .int .u64 a0_3, .int .u64 a0_4] 31 (0, 0)) (by (with_reducible repeat (first | refine blk_drewN ?_ _ | refine blk_drew ?_ | refine blk_alloc ?_ _)); exact BK152.out) hb); have n1_ := Aside0.mk (below_step (by repeat (first | (with_reducible first | exact HB.out | apply below_alloc | apply pw_below_drewN | apply below_drew1 | refine below_set ?_ GE152.out) | exact HB.out)) hb); have n2_ := Aside0.mk (hbox); have n3_ := Aside0.mk ((by rw [hg]; exact (below_size (by repeat (first | (with_reducible first | exact HB.out | apply below_alloc | apply pw_below_drewN | apply below_drew1 | refine below_set ?_ GE152.out) | exact HB.out))) : w.heap.size ≤ gb153)); have n4_ := Aside0.mk ((by rw [hg]; exact (below_size (by repeat (first | (with_reducible first | exact HB.out | apply below_alloc | apply pw_below_drewN | apply below_drew1 | refine below_set ?_ GE152.out) | exact HB.out))) : w.heap.size ≤ gb153)); have n5_ := Aside0.mk ((by rw [hg]; exact Nat.ne_of_lt (blk_lt (g := gb152) (o := .cells #[.bool true, .int .u64 a0_1, .int .u64 a0_2, .int .u64 a0_3, .int .u64 a0_4] 31 (0, 0)) (by (with_reducible repeat (first | refine blk_drewN ?_ _ | refine blk_drew ?_ | refine blk_alloc ?_ _)); exact BK152.out)) : gb152 ≠ gb153)); have n6_ := Aside0.mk ((by rw [hg]; exact Nat.ne_of_gt (blk_lt (g := gb152) (o := .cells #[.bool true, .int .u64 a0_1, .int .u64 a0_2, .int .u64 a0_3, .int .u64 a0_4] 31 (0, 0)) (by (with_reducible repeat (first | refine blk_drewN ?_ _ | refine blk_drew ?_ | refine blk_alloc ?_ _)); exact BK152.out)) : gb153 ≠ gb152)); clear BK152; clear HB; have BK152 := n0_; have HB := n1_; have BK153 := n2_; have GW153 := n3_; have GE153 := n4_; have NB152_153 := n5_; have NB153_152 := n6_; clear n0_ n1_ n2_ n3_ n4_ n5_ n6_; clear hb hbox hg; have hnb6 := NB152_153.out; have hnc6 := NB153_152.out; have hcz7_0 : w5.cell? ⟨gb152, 0, none⟩ = some (.bool true) := (blk_cell BK152.out 0).trans rfl; have hcz7_1 : w5.cell? ⟨gb152, 1, none⟩ = some (.int .u64 a0_1) := (blk_cell BK152.out 1).trans rfl; have hcz7_2 : w5.cell? ⟨gb152, 2, none⟩ = some (.int .u64 a0_2) := (blk_cell BK152.out 2).trans rfl; have hcz7_3 : w5.cell? ⟨gb152, 3, none⟩ = some (.int .u64 a0_3) := (blk_cell BK152.out 3).trans rfl; have hcz7_4 : w5.cell? ⟨gb152, 4, none⟩ = some (.int .u64 a0_4) := (blk_cell BK152.out 4).trans rfl; have hfz7_0 := blk_frozen BK152.out 0; have hfz7_1 := blk_frozen BK152.out 1; have hfz7_2 := blk_frozen BK152.out 2; have hfz7_3 := blk_frozen BK152.out 3; have hfz7_4 := blk_frozen BK152.out 4; have hcz8_0 : w5.cell? ⟨gb153, 0, none⟩ = some (.int .i64 0) := (blk_cell BK153.out 0).trans rfl; have hcz8_1 : w5.cell? ⟨gb153, 1, none⟩ = some (.int .u64 0) := (blk_cell BK153.out 1).trans rfl; have hfz8_0 := blk_frozen BK153.out 0; have hfz8_1 := blk_frozen BK153.out 1)))
      refine bodyPost_ret (results_cell_row rfl _ _ gb153 25 #[.int .i64 (wrap64 (IntKind.u64.wrap ((Go.bits .xor .u64 18446744073709551615 a0_2) + 1))), .int .u64 (IntKind.u64.wrap ((Go.bits .xor .u64 18446744073709551615 a0_1) + 1))] (0, 0) _ rfl (by (with_reducible repeat (first | refine blk_drewN ?_ _ | refine blk_drew ?_ | refine blk_alloc ?_ _)); refine blk_put (cs := #[.int .i64 (wrap64 (IntKind.u64.wrap ((Go.bits .xor .u64 18446744073709551615 a0_2) + 1))), .int .u64 0]) ?_ 1 _ rfl; (with_reducible repeat (first | refine blk_drewN ?_ _ | refine blk_drew ?_ | refine blk_alloc ?_ _)); refine blk_put (cs := #[.int .i64 0, .int .u64 0]) ?_ 0 _ rfl; (with_reducible repeat (first | refine blk_drewN ?_ _ | refine blk_drew ?_ | refine blk_alloc ?_ _)); exact BK153.out) Try.underlying25 rfl (by kernel_rfl)) rfl ?_
      exact ⟨by first | rfl | (simp [errW_none, errW_some] <;> rfl) | (simp [*, errW_none, errW_some] <;> rfl), by repeat (first | (with_reducible first | exact HB.out | apply below_alloc | apply pw_below_drewN | apply below_drew1 | refine below_set ?_ GE152.out | refine below_set ?_ GE153.out) | exact HB.out)⟩
    · rw [if_neg c3] at H
      have c3b0 : ((IntKind.u64.wrap ((Go.bits .xor .u64 18446744073709551615 a0_1) + 1)) == 0) = false := beq_eq_false_iff_ne.mpr c3
      have c3b1 : ((IntKind.u64.wrap ((Go.bits .xor .u64 18446744073709551615 a0_1) + 1)) != 0) = true := bne_iff_ne.mpr c3
      simp only [Option.some.injEq, Prod.mk.injEq] at H
      obtain ⟨rfl, rfl⟩ := H
      go_enter Try.func15, Try.ntmps15
      go_wp2_with (first | ((with_reducible refine gate_dst (N := 1) rfl ?_); refine box_event ?hg (N := 1) ?hd (cs := #[.bool true, .int .u64 a0_1, .int .u64 a0_2, .int .u64 a0_3, .int .u64 a0_4]) (t := 31) ?hr ?_; (case hd => rfl); (case hg => rfl); (case hr => first | (go_simp; done) | (go_simp; rfl)); intro gb152 hg w9 hbox hb; have n0_ := Aside0.mk (below_step (by repeat (first | (with_reducible first | exact HB.out | apply below_alloc | apply pw_below_drewN | apply below_drew1) | exact HB.out)) hb); have n1_ := Aside0.mk (hbox); have n2_ := Aside0.mk ((by rw [hg]; exact (below_size (by repeat (first | (with_reducible first | exact HB.out | apply below_alloc | apply pw_below_drewN | apply below_drew1) | exact HB.out))) : w.heap.size ≤ gb152)); have n3_ := Aside0.mk ((by rw [hg]; exact (below_size (by repeat (first | (with_reducible first | exact HB.out | apply below_alloc | apply pw_below_drewN | apply below_drew1) | exact HB.out))) : w.heap.size ≤ gb152)); clear HB; have HB := n0_; have BK152 := n1_; have GW152 := n2_; have GE152 := n3_; clear n0_ n1_ n2_ n3_; clear hb hbox hg) | ((with_reducible refine gate_dst (N := 2) rfl ?_); refine box_event ?hg (N := 2) ?hd (cs := #[.int .i64 0, .int .u64 0]) (t := 25) ?hr ?_; (case hd => rfl); (case hg => rfl); (case hr => first | (go_simp; done) | (go_simp; rfl)); intro gb153 hg w10 hbox hb; have n0_ := Aside0.mk (blk_below (g := gb152) (o := .cells #[.bool true, .int .u64 a0_1, .int .u64 a0_2, .int .u64 a0_3, .int .u64 a0_4] 31 (0, 0)) (by (with_reducible repeat (first | refine blk_drewN ?_ _ | refine blk_drew ?_ | refine blk_alloc ?_ _)); exact BK152.out) hb); have n1_ := Aside0.mk (below_step (by repeat (first | (with_reducible first | exact HB.out | apply below_alloc | apply pw_below_drewN | apply below_drew1 | refine below_set ?_ GE152.out) | exact HB.out)) hb); have n2_ := Aside0.mk (hbox); have n3_ := Aside0.mk ((by rw [hg]; exact (below_size (by repeat (first | (with_reducible first | exact HB.out | apply below_alloc | apply pw_below_drewN | apply below_drew1 | refine below_set ?_ GE152.out) | exact HB.out))) : w.heap.size ≤ gb153)); have n4_ := Aside0.mk ((by rw [hg]; exact (below_size (by repeat (first | (with_reducible first | exact HB.out | apply below_alloc | apply pw_below_drewN | apply below_drew1 | refine below_set ?_ GE152.out) | exact HB.out))) : w.heap.size ≤ gb153)); have n5_ := Aside0.mk ((by rw [hg]; exact Nat.ne_of_lt (blk_lt (g := gb152) (o := .cells #[.bool true, .int .u64 a0_1, .int .u64 a0_2, .int .u64 a0_3, .int .u64 a0_4] 31 (0, 0)) (by (with_reducible repeat (first | refine blk_drewN ?_ _ | refine blk_drew ?_ | refine blk_alloc ?_ _)); exact BK152.out)) : gb152 ≠ gb153)); have n6_ := Aside0.mk ((by rw [hg]; exact Nat.ne_of_gt (blk_lt (g := gb152) (o := .cells #[.bool true, .int .u64 a0_1, .int .u64 a0_2, .int .u64 a0_3, .int .u64 a0_4] 31 (0, 0)) (by (with_reducible repeat (first | refine blk_drewN ?_ _ | refine blk_drew ?_ | refine blk_alloc ?_ _)); exact BK152.out)) : gb153 ≠ gb152)); clear BK152; clear HB; have BK152 := n0_; have HB := n1_; have BK153 := n2_; have GW153 := n3_; have GE153 := n4_; have NB152_153 := n5_; have NB153_152 := n6_; clear n0_ n1_ n2_ n3_ n4_ n5_ n6_; clear hb hbox hg; have hnb11 := NB152_153.out; have hnc11 := NB153_152.out; have hcz12_0 : w10.cell? ⟨gb152, 0, none⟩ = some (.bool true) := (blk_cell BK152.out 0).trans rfl; have hcz12_1 : w10.cell? ⟨gb152, 1, none⟩ = some (.int .u64 a0_1) := (blk_cell BK152.out 1).trans rfl; have hcz12_2 : w10.cell? ⟨gb152, 2, none⟩ = some (.int .u64 a0_2) := (blk_cell BK152.out 2).trans rfl; have hcz12_3 : w10.cell? ⟨gb152, 3, none⟩ = some (.int .u64 a0_3) := (blk_cell BK152.out 3).trans rfl; have hcz12_4 : w10.cell? ⟨gb152, 4, none⟩ = some (.int .u64 a0_4) := (blk_cell BK152.out 4).trans rfl; have hfz12_0 := blk_frozen BK152.out 0; have hfz12_1 := blk_frozen BK152.out 1; have hfz12_2 := blk_frozen BK152.out 2; have hfz12_3 := blk_frozen BK152.out 3; have hfz12_4 := blk_frozen BK152.out 4; have hcz13_0 : w10.cell? ⟨gb153, 0, none⟩ = some (.int .i64 0) := (blk_cell BK153.out 0).trans rfl; have hcz13_1 : w10.cell? ⟨gb153, 1, none⟩ = some (.int .u64 0) := (blk_cell BK153.out 1).trans rfl; have hfz13_0 := blk_frozen BK153.out 0; have hfz13_1 := blk_frozen BK153.out 1))
      repeat (go_quiet (first | ((with_reducible refine gate_dst (N := 1) rfl ?_); refine box_event ?hg (N := 1) ?hd (cs := #[.bool true, .int .u64 a0_1, .int .u64 a0_2, .int .u64 a0_3, .int .u64 a0_4]) (t := 31) ?hr ?_; (case hd => rfl); (case hg => rfl); (case hr => first | (go_simp; done) | (go_simp; rfl)); intro gb152 hg w9 hbox hb; have n0_ := Aside0.mk (below_step (by repeat (first | (with_reducible first | exact HB.out | apply below_alloc | apply pw_below_drewN | apply below_drew1) | exact HB.out)) hb); have n1_ := Aside0.mk (hbox); have n2_ := Aside0.mk ((by rw [hg]; exact (below_size (by repeat (first | (with_reducible first | exact HB.out | apply below_alloc | apply pw_below_drewN | apply below_drew1) | exact HB.out))) : w.heap.size ≤ gb152)); have n3_ := Aside0.mk ((by rw [hg]; exact (below_size (by repeat (first | (with_reducible first | exact HB.out | apply below_alloc | apply pw_below_drewN | apply below_drew1) | exact HB.out))) : w.heap.size ≤ gb152)); clear HB; have HB := n0_; have BK152 := n1_; have GW152 := n2_; have GE152 := n3_; clear n0_ n1_ n2_ n3_; clear hb hbox hg) | ((with_reducible refine gate_dst (N := 2) rfl ?_); refine box_event ?hg (N := 2) ?hd (cs := #[.int .i64 0, .int .u64 0]) (t := 25) ?hr ?_; (case hd => rfl); (case hg => rfl); (case hr => first | (go_simp; done) | (go_simp; rfl)); intro gb153 hg w10 hbox hb; have n0_ := Aside0.mk (blk_below (g := gb152) (o := .cells #[.bool true, .int .u64 a0_1, .int .u64 a0_2, .int .u64 a0_3, .int .u64 a0_4] 31 (0, 0)) (by (with_reducible repeat (first | refine blk_drewN ?_ _ | refine blk_drew ?_ | refine blk_alloc ?_ _)); exact BK152.out) hb); have n1_ := Aside0.mk (below_step (by repeat (first | (with_reducible first | exact HB.out | apply below_alloc | apply pw_below_drewN | apply below_drew1 | refine below_set ?_ GE152.out) | exact HB.out)) hb); have n2_ := Aside0.mk (hbox); have n3_ := Aside0.mk ((by rw [hg]; exact (below_size (by repeat (first | (with_reducible first | exact HB.out | apply below_alloc | apply pw_below_drewN | apply below_drew1 | refine below_set ?_ GE152.out) | exact HB.out))) : w.heap.size ≤ gb153)); have n4_ := Aside0.mk ((by rw [hg]; exact (below_size (by repeat (first | (with_reducible first | exact HB.out | apply below_alloc | apply pw_below_drewN | apply below_drew1 | refine below_set ?_ GE152.out) | exact HB.out))) : w.heap.size ≤ gb153)); have n5_ := Aside0.mk ((by rw [hg]; exact Nat.ne_of_lt (blk_lt (g := gb152) (o := .cells #[.bool true, .int .u64 a0_1, .int .u64 a0_2, .int .u64 a0_3, .int .u64 a0_4] 31 (0, 0)) (by (with_reducible repeat (first | refine blk_drewN ?_ _ | refine blk_drew ?_ | refine blk_alloc ?_ _)); exact BK152.out)) : gb152 ≠ gb153)); have n6_ := Aside0.mk ((by rw [hg]; exact Nat.ne_of_gt (blk_lt (g := gb152) (o := .cells #[.bool true, .int .u64 a0_1, .int .u64 a0_2, .int .u64 a0_3, .int .u64 a0_4] 31 (0, 0)) (by (with_reducible repeat (first | refine blk_drewN ?_ _ | refine blk_drew ?_ | refine blk_alloc ?_ _)); exact BK152.out)) : gb153 ≠ gb152)); clear BK152; clear HB; have BK152 := n0_; have HB := n1_; have BK153 := n2_; have GW153 := n3_; have GE153 := n4_; have NB152_153 := n5_; have NB153_152 := n6_; clear n0_ n1_ n2_ n3_ n4_ n5_ n6_; clear hb hbox hg; have hnb11 := NB152_153.out; have hnc11 := NB153_152.out; have hcz12_0 : w10.cell? ⟨gb152, 0, none⟩ = some (.bool true) := (blk_cell BK152.out 0).trans rfl; have hcz12_1 : w10.cell? ⟨gb152, 1, none⟩ = some (.int .u64 a0_1) := (blk_cell BK152.out 1).trans rfl; have hcz12_2 : w10.cell? ⟨gb152, 2, none⟩ = some (.int .u64 a0_2) := (blk_cell BK152.out 2).trans rfl; have hcz12_3 : w10.cell? ⟨gb152, 3, none⟩ = some (.int .u64 a0_3) := (blk_cell BK152.out 3).trans rfl; have hcz12_4 : w10.cell? ⟨gb152, 4, none⟩ = some (.int .u64 a0_4) := (blk_cell BK152.out 4).trans rfl; have hfz12_0 := blk_frozen BK152.out 0; have hfz12_1 := blk_frozen BK152.out 1; have hfz12_2 := blk_frozen BK152.out 2; have hfz12_3 := blk_frozen BK152.out 3; have hfz12_4 := blk_frozen BK152.out 4; have hcz13_0 : w10.cell? ⟨gb153, 0, none⟩ = some (.int .i64 0) := (blk_cell BK153.out 0).trans rfl; have hcz13_1 : w10.cell? ⟨gb153, 1, none⟩ = some (.int .u64 0) := (blk_cell BK153.out 1).trans rfl; have hfz13_0 := blk_frozen BK153.out 0; have hfz13_1 := blk_frozen BK153.out 1)); try go_wp2_with (first | ((with_reducible refine gate_dst (N := 1) rfl ?_); refine box_event ?hg (N := 1) ?hd (cs := #[.bool true, .int .u64 a0_1, .int .u64 a0_2, .int .u64 a0_3, .int .u64 a0_4]) (t := 31) ?hr ?_; (case hd => rfl); (case hg => rfl); (case hr => first | (go_simp; done) | (go_simp; rfl)); intro gb152 hg w9 hbox hb; have n0_ := Aside0.mk (below_step (by repeat (first | (with_reducible first | exact HB.out | apply below_alloc | apply pw_below_drewN | apply below_drew1) | exact HB.out)) hb); have n1_ := Aside0.mk (hbox); have n2_ := Aside0.mk ((by rw [hg]; exact (below_size (by repeat (first | (with_reducible first | exact HB.out | apply below_alloc | apply pw_below_drewN | apply below_drew1) | exact HB.out))) : w.heap.size ≤ gb152)); have n3_ := Aside0.mk ((by rw [hg]; exact (below_size (by repeat (first | (with_reducible first | exact HB.out | apply below_alloc | apply pw_below_drewN | apply below_drew1) | exact HB.out))) : w.heap.size ≤ gb152)); clear HB; have HB := n0_; have BK152 := n1_; have GW152 := n2_; have GE152 := n3_; clear n0_ n1_ n2_ n3_; clear hb hbox hg) | ((with_reducible refine gate_dst (N := 2) rfl ?_); refine box_event ?hg (N := 2) ?hd (cs := #[.int .i64 0, .int .u64 0]) (t := 25) ?hr ?_; (case hd => rfl); (case hg => rfl); (case hr => first | (go_simp; done) | (go_simp; rfl)); intro gb153 hg w10 hbox hb; have n0_ := Aside0.mk (blk_below (g := gb152) (o := .cells #[.bool true, .int .u64 a0_1, .int .u64 a0_2, .int .u64 a0_3, .int .u64 a0_4] 31 (0, 0)) (by (with_reducible repeat (first | refine blk_drewN ?_ _ | refine blk_drew ?_ | refine blk_alloc ?_ _)); exact BK152.out) hb); have n1_ := Aside0.mk (below_step (by repeat (first | (with_reducible first | exact HB.out | apply below_alloc | apply pw_below_drewN | apply below_drew1 | refine below_set ?_ GE152.out) | exact HB.out)) hb); have n2_ := Aside0.mk (hbox); have n3_ := Aside0.mk ((by rw [hg]; exact (below_size (by repeat (first | (with_reducible first | exact HB.out | apply below_alloc | apply pw_below_drewN | apply below_drew1 | refine below_set ?_ GE152.out) | exact HB.out))) : w.heap.size ≤ gb153)); have n4_ := Aside0.mk ((by rw [hg]; exact (below_size (by repeat (first | (with_reducible first | exact HB.out | apply below_alloc | apply pw_below_drewN | apply below_drew1 | refine below_set ?_ GE152.out) | exact HB.out))) : w.heap.size ≤ gb153)); have n5_ := Aside0.mk ((by rw [hg]; exact Nat.ne_of_lt (blk_lt (g := gb152) (o := .cells #[.bool true, .int .u64 a0_1, .int .u64 a0_2, .int .u64 a0_3, .int .u64 a0_4] 31 (0, 0)) (by (with_reducible repeat (first | refine blk_drewN ?_ _ | refine blk_drew ?_ | refine blk_alloc ?_ _)); exact BK152.out)) : gb152 ≠ gb153)); have n6_ := Aside0.mk ((by rw [hg]; exact Nat.ne_of_gt (blk_lt (g := gb152) (o := .cells #[.bool true, .int .u64 a0_1, .int .u64 a0_2, .int .u64 a0_3, .int .u64 a0_4] 31 (0, 0)) (by (with_reducible repeat (first | refine blk_drewN ?_ _ | refine blk_drew ?_ | refine blk_alloc ?_ _)); exact BK152.out)) : gb153 ≠ gb152)); clear BK152; clear HB; have BK152 := n0_; have HB := n1_; have BK153 := n2_; have GW153 := n3_; have GE153 := n4_; have NB152_153 := n5_; have NB153_152 := n6_; clear n0_ n1_ n2_ n3_ n4_ n5_ n6_; clear hb hbox hg; have hnb11 := NB152_153.out; have hnc11 := NB153_152.out; have hcz12_0 : w10.cell? ⟨gb152, 0, none⟩ = some (.bool true) := (blk_cell BK152.out 0).trans rfl; have hcz12_1 : w10.cell? ⟨gb152, 1, none⟩ = some (.int .u64 a0_1) := (blk_cell BK152.out 1).trans rfl; have hcz12_2 : w10.cell? ⟨gb152, 2, none⟩ = some (.int .u64 a0_2) := (blk_cell BK152.out 2).trans rfl; have hcz12_3 : w10.cell? ⟨gb152, 3, none⟩ = some (.int .u64 a0_3) := (blk_cell BK152.out 3).trans rfl; have hcz12_4 : w10.cell? ⟨gb152, 4, none⟩ = some (.int .u64 a0_4) := (blk_cell BK152.out 4).trans rfl; have hfz12_0 := blk_frozen BK152.out 0; have hfz12_1 := blk_frozen BK152.out 1; have hfz12_2 := blk_frozen BK152.out 2; have hfz12_3 := blk_frozen BK152.out 3; have hfz12_4 := blk_frozen BK152.out 4; have hcz13_0 : w10.cell? ⟨gb153, 0, none⟩ = some (.int .i64 0) := (blk_cell BK153.out 0).trans rfl; have hcz13_1 : w10.cell? ⟨gb153, 1, none⟩ = some (.int .u64 0) := (blk_cell BK153.out 1).trans rfl; have hfz13_0 := blk_frozen BK153.out 0; have hfz13_1 := blk_frozen BK153.out 1)))
      refine bodyPost_ret (results_cell_row rfl _ _ gb153 25 #[.int .i64 (wrap64 (Go.bits .xor .u64 18446744073709551615 a0_2)), .int .u64 (IntKind.u64.wrap ((Go.bits .xor .u64 18446744073709551615 a0_1) + 1))] (0, 0) _ rfl (by (with_reducible repeat (first | refine blk_drewN ?_ _ | refine blk_drew ?_ | refine blk_alloc ?_ _)); refine blk_put (cs := #[.int .i64 (wrap64 (Go.bits .xor .u64 18446744073709551615 a0_2)), .int .u64 0]) ?_ 1 _ rfl; (with_reducible repeat (first | refine blk_drewN ?_ _ | refine blk_drew ?_ | refine blk_alloc ?_ _)); refine blk_put (cs := #[.int .i64 0, .int .u64 0]) ?_ 0 _ rfl; (with_reducible repeat (first | refine blk_drewN ?_ _ | refine blk_drew ?_ | refine blk_alloc ?_ _)); exact BK153.out) Try.underlying25 rfl (by kernel_rfl)) rfl ?_
      exact ⟨by first | rfl | (simp [errW_none, errW_some] <;> rfl) | (simp [*, errW_none, errW_some] <;> rfl), by repeat (first | (with_reducible first | exact HB.out | apply below_alloc | apply pw_below_drewN | apply below_drew1 | refine below_set ?_ GE152.out | refine below_set ?_ GE153.out) | exact HB.out)⟩
  · replace c2 := Bool.eq_false_iff.mpr c2
    subst c2
    have H1 : (some (wrap64 (a0_2), a0_1)) = some (r1, r2) := by rw [if_neg (show ¬ (false = true) by decide)] at H; exact H
    clear H
    have H := H1
    clear H1
    simp only [Option.some.injEq, Prod.mk.injEq] at H
    obtain ⟨rfl, rfl⟩ := H
    go_enter Try.func15, Try.ntmps15
    go_wp2_with (first | ((with_reducible refine gate_dst (N := 1) rfl ?_); refine box_event ?hg (N := 1) ?hd (cs := #[.bool false, .int .u64 a0_1, .int .u64 a0_2, .int .u64 a0_3, .int .u64 a0_4]) (t := 31) ?hr ?_; (case hd => rfl); (case hg => rfl); (case hr => first | (go_simp; done) | (go_simp; rfl)); intro gb152 hg w14 hbox hb; have n0_ := Aside0.mk (below_step (by repeat (first | (with_reducible first | exact HB.out | apply below_alloc | apply pw_below_drewN | apply below_drew1) | exact HB.out)) hb); have n1_ := Aside0.mk (hbox); have n2_ := Aside0.mk ((by rw [hg]; exact (below_size (by repeat (first | (with_reducible first | exact HB.out | apply below_alloc | apply pw_below_drewN | apply below_drew1) | exact HB.out))) : w.heap.size ≤ gb152)); have n3_ := Aside0.mk ((by rw [hg]; exact (below_size (by repeat (first | (with_reducible first | exact HB.out | apply below_alloc | apply pw_below_drewN | apply below_drew1) | exact HB.out))) : w.heap.size ≤ gb152)); clear HB; have HB := n0_; have BK152 := n1_; have GW152 := n2_; have GE152 := n3_; clear n0_ n1_ n2_ n3_; clear hb hbox hg) | ((with_reducible refine gate_dst (N := 2) rfl ?_); refine box_event ?hg (N := 2) ?hd (cs := #[.int .i64 0, .int .u64 0]) (t := 25) ?hr ?_; (case hd => rfl); (case hg => rfl); (case hr => first | (go_simp; done) | (go_simp; rfl)); intro gb153 hg w15 hbox hb; have n0_ := Aside0.mk (blk_below (g := gb152) (o := .cells #[.bool false, .int .u64 a0_1, .int .u64 a0_2, .int .u64 a0_3, .int .u64 a0_4] 31 (0, 0)) (by (with_reducible repeat (first | refine blk_drewN ?_ _ | refine blk_drew ?_ | refine blk_alloc ?_ _)); exact BK152.out) hb); have n1_ := Aside0.mk (below_step (by repeat (first | (with_reducible first | exact HB.out | apply below_alloc | apply pw_below_drewN | apply below_drew1 | refine below_set ?_ GE152.out) | exact HB.out)) hb); have n2_ := Aside0.mk (hbox); have n3_ := Aside0.mk ((by rw [hg]; exact (below_size (by repeat (first | (with_reducible first | exact HB.out | apply below_alloc | apply pw_below_drewN | apply below_drew1 | refine below_set ?_ GE152.out) | exact HB.out))) : w.heap.size ≤ gb153)); have n4_ := Aside0.mk ((by rw [hg]; exact (below_size (by repeat (first | (with_reducible first | exact HB.out | apply below_alloc | apply pw_below_drewN | apply below_drew1 | refine below_set ?_ GE152.out) | exact HB.out))) : w.heap.size ≤ gb153)); have n5_ := Aside0.mk ((by rw [hg]; exact Nat.ne_of_lt (blk_lt (g := gb152) (o := .cells #[.bool false, .int .u64 a0_1, .int .u64 a0_2, .int .u64 a0_3, .int .u64 a0_4] 31 (0, 0)) (by (with_reducible repeat (first | refine blk_drewN ?_ _ | refine blk_drew ?_ | refine blk_alloc ?_ _)); exact BK152.out)) : gb152 ≠ gb153)); have n6_ := Aside0.mk ((by rw [hg]; exact Nat.ne_of_gt (blk_lt (g := gb152) (o := .cells #[.bool false, .int .u64 a0_1, .int .u64 a0_2, .int .u64 a0_3, .int .u64 a0_4] 31 (0, 0)) (by (with_reducible repeat (first | refine blk_drewN ?_ _ | refine blk_drew ?_ | refine blk_alloc ?_ _)); exact BK152.out)) : gb153 ≠ gb152)); clear BK152; clear HB; have BK152 := n0_; have HB := n1_; have BK153 := n2_; have GW153 := n3_; have GE153 := n4_; have NB152_153 := n5_; have NB153_152 := n6_; clear n0_ n1_ n2_ n3_ n4_ n5_ n6_; clear hb hbox hg; have hnb16 := NB152_153.out; have hnc16 := NB153_152.out; have hcz17_0 : w15.cell? ⟨gb152, 0, none⟩ = some (.bool false) := (blk_cell BK152.out 0).trans rfl; have hcz17_1 : w15.cell? ⟨gb152, 1, none⟩ = some (.int .u64 a0_1) := (blk_cell BK152.out 1).trans rfl; have hcz17_2 : w15.cell? ⟨gb152, 2, none⟩ = some (.int .u64 a0_2) := (blk_cell BK152.out 2).trans rfl; have hcz17_3 : w15.cell? ⟨gb152, 3, none⟩ = some (.int .u64 a0_3) := (blk_cell BK152.out 3).trans rfl; have hcz17_4 : w15.cell? ⟨gb152, 4, none⟩ = some (.int .u64 a0_4) := (blk_cell BK152.out 4).trans rfl; have hfz17_0 := blk_frozen BK152.out 0; have hfz17_1 := blk_frozen BK152.out 1; have hfz17_2 := blk_frozen BK152.out 2; have hfz17_3 := blk_frozen BK152.out 3; have hfz17_4 := blk_frozen BK152.out 4; have hcz18_0 : w15.cell? ⟨gb153, 0, none⟩ = some (.int .i64 0) := (blk_cell BK153.out 0).trans rfl; have hcz18_1 : w15.cell? ⟨gb153, 1, none⟩ = some (.int .u64 0) := (blk_cell BK153.out 1).trans rfl; have hfz18_0 := blk_frozen BK153.out 0; have hfz18_1 := blk_frozen BK153.out 1))
    repeat (go_quiet (first | ((with_reducible refine gate_dst (N := 1) rfl ?_); refine box_event ?hg (N := 1) ?hd (cs := #[.bool false, .int .u64 a0_1, .int .u64 a0_2, .int .u64 a0_3, .int .u64 a0_4]) (t := 31) ?hr ?_; (case hd => rfl); (case hg => rfl); (case hr => first | (go_simp; done) | (go_simp; rfl)); intro gb152 hg w14 hbox hb; have n0_ := Aside0.mk (below_step (by repeat (first | (with_reducible first | exact HB.out | apply below_alloc | apply pw_below_drewN | apply below_drew1) | exact HB.out)) hb); have n1_ := Aside0.mk (hbox); have n2_ := Aside0.mk ((by rw [hg]; exact (below_size (by repeat (first | (with_reducible first | exact HB.out | apply below_alloc | apply pw_below_drewN | apply below_drew1) | exact HB.out))) : w.heap.size ≤ gb152)); have n3_ := Aside0.mk ((by rw [hg]; exact (below_size (by repeat (first | (with_reducible first | exact HB.out | apply below_alloc | apply pw_below_drewN | apply below_drew1) | exact HB.out))) : w.heap.size ≤ gb152)); clear HB; have HB := n0_; have BK152 := n1_; have GW152 := n2_; have GE152 := n3_; clear n0_ n1_ n2_ n3_; clear hb hbox hg) | ((with_reducible refine gate_dst (N := 2) rfl ?_); refine box_event ?hg (N := 2) ?hd (cs := #[.int .i64 0, .int .u64 0]) (t := 25) ?hr ?_; (case hd => rfl); (case hg => rfl); (case hr => first | (go_simp; done) | (go_simp; rfl)); intro gb153 hg w15 hbox hb; have n0_ := Aside0.mk (blk_below (g := gb152) (o := .cells #[.bool false, .int .u64 a0_1, .int .u64 a0_2, .int .u64 a0_3, .int .u64 a0_4] 31 (0, 0)) (by (with_reducible repeat (first | refine blk_drewN ?_ _ | refine blk_drew ?_ | refine blk_alloc ?_ _)); exact BK152.out) hb); have n1_ := Aside0.mk (below_step (by repeat (first | (with_reducible first | exact HB.out | apply below_alloc | apply pw_below_drewN | apply below_drew1 | refine below_set ?_ GE152.out) | exact HB.out)) hb); have n2_ := Aside0.mk (hbox); have n3_ := Aside0.mk ((by rw [hg]; exact (below_size (by repeat (first | (with_reducible first | exact HB.out | apply below_alloc | apply pw_below_drewN | apply below_drew1 | refine below_set ?_ GE152.out) | exact HB.out))) : w.heap.size ≤ gb153)); have n4_ := Aside0.mk ((by rw [hg]; exact (below_size (by repeat (first | (with_reducible first | exact HB.out | apply below_alloc | apply pw_below_drewN | apply below_drew1 | refine below_set ?_ GE152.out) | exact HB.out))) : w.heap.size ≤ gb153)); have n5_ := Aside0.mk ((by rw [hg]; exact Nat.ne_of_lt (blk_lt (g := gb152) (o := .cells #[.bool false, .int .u64 a0_1, .int .u64 a0_2, .int .u64 a0_3, .int .u64 a0_4] 31 (0, 0)) (by (with_reducible repeat (first | refine blk_drewN ?_ _ | refine blk_drew ?_ | refine blk_alloc ?_ _)); exact BK152.out)) : gb152 ≠ gb153)); have n6_ := Aside0.mk ((by rw [hg]; exact Nat.ne_of_gt (blk_lt (g := gb152) (o := .cells #[.bool false, .int .u64 a0_1, .int .u64 a0_2, .int .u64 a0_3, .int .u64 a0_4] 31 (0, 0)) (by (with_reducible repeat (first | refine blk_drewN ?_ _ | refine blk_drew ?_ | refine blk_alloc ?_ _)); exact BK152.out)) : gb153 ≠ gb152)); clear BK152; clear HB; have BK152 := n0_; have HB := n1_; have BK153 := n2_; have GW153 := n3_; have GE153 := n4_; have NB152_153 := n5_; have NB153_152 := n6_; clear n0_ n1_ n2_ n3_ n4_ n5_ n6_; clear hb hbox hg; have hnb16 := NB152_153.out; have hnc16 := NB153_152.out; have hcz17_0 : w15.cell? ⟨gb152, 0, none⟩ = some (.bool false) := (blk_cell BK152.out 0).trans rfl; have hcz17_1 : w15.cell? ⟨gb152, 1, none⟩ = some (.int .u64 a0_1) := (blk_cell BK152.out 1).trans rfl; have hcz17_2 : w15.cell? ⟨gb152, 2, none⟩ = some (.int .u64 a0_2) := (blk_cell BK152.out 2).trans rfl; have hcz17_3 : w15.cell? ⟨gb152, 3, none⟩ = some (.int .u64 a0_3) := (blk_cell BK152.out 3).trans rfl; have hcz17_4 : w15.cell? ⟨gb152, 4, none⟩ = some (.int .u64 a0_4) := (blk_cell BK152.out 4).trans rfl; have hfz17_0 := blk_frozen BK152.out 0; have hfz17_1 := blk_frozen BK152.out 1; have hfz17_2 := blk_frozen BK152.out 2; have hfz17_3 := blk_frozen BK152.out 3; have hfz17_4 := blk_frozen BK152.out 4; have hcz18_0 : w15.cell? ⟨gb153, 0, none⟩ = some (.int .i64 0) := (blk_cell BK153.out 0).trans rfl; have hcz18_1 : w15.cell? ⟨gb153, 1, none⟩ = some (.int .u64 0) := (blk_cell BK153.out 1).trans rfl; have hfz18_0 := blk_frozen BK153.out 0; have hfz18_1 := blk_frozen BK153.out 1)); try go_wp2_with (first | ((with_reducible refine gate_dst (N := 1) rfl ?_); refine box_event ?hg (N := 1) ?hd (cs := #[.bool false, .int .u64 a0_1, .int .u64 a0_2, .int .u64 a0_3, .int .u64 a0_4]) (t := 31) ?hr ?_; (case hd => rfl); (case hg => rfl); (case hr => first | (go_simp; done) | (go_simp; rfl)); intro gb152 hg w14 hbox hb; have n0_ := Aside0.mk (below_step (by repeat (first | (with_reducible first | exact HB.out | apply below_alloc | apply pw_below_drewN | apply below_drew1) | exact HB.out)) hb); have n1_ := Aside0.mk (hbox); have n2_ := Aside0.mk ((by rw [hg]; exact (below_size (by repeat (first | (with_reducible first | exact HB.out | apply below_alloc | apply pw_below_drewN | apply below_drew1) | exact HB.out))) : w.heap.size ≤ gb152)); have n3_ := Aside0.mk ((by rw [hg]; exact (below_size (by repeat (first | (with_reducible first | exact HB.out | apply below_alloc | apply pw_below_drewN | apply below_drew1) | exact HB.out))) : w.heap.size ≤ gb152)); clear HB; have HB := n0_; have BK152 := n1_; have GW152 := n2_; have GE152 := n3_; clear n0_ n1_ n2_ n3_; clear hb hbox hg) | ((with_reducible refine gate_dst (N := 2) rfl ?_); refine box_event ?hg (N := 2) ?hd (cs := #[.int .i64 0, .int .u64 0]) (t := 25) ?hr ?_; (case hd => rfl); (case hg => rfl); (case hr => first | (go_simp; done) | (go_simp; rfl)); intro gb153 hg w15 hbox hb; have n0_ := Aside0.mk (blk_below (g := gb152) (o := .cells #[.bool false, .int .u64 a0_1, .int .u64 a0_2, .int .u64 a0_3, .int .u64 a0_4] 31 (0, 0)) (by (with_reducible repeat (first | refine blk_drewN ?_ _ | refine blk_drew ?_ | refine blk_alloc ?_ _)); exact BK152.out) hb); have n1_ := Aside0.mk (below_step (by repeat (first | (with_reducible first | exact HB.out | apply below_alloc | apply pw_below_drewN | apply below_drew1 | refine below_set ?_ GE152.out) | exact HB.out)) hb); have n2_ := Aside0.mk (hbox); have n3_ := Aside0.mk ((by rw [hg]; exact (below_size (by repeat (first | (with_reducible first | exact HB.out | apply below_alloc | apply pw_below_drewN | apply below_drew1 | refine below_set ?_ GE152.out) | exact HB.out))) : w.heap.size ≤ gb153)); have n4_ := Aside0.mk ((by rw [hg]; exact (below_size (by repeat (first | (with_reducible first | exact HB.out | apply below_alloc | apply pw_below_drewN | apply below_drew1 | refine below_set ?_ GE152.out) | exact HB.out))) : w.heap.size ≤ gb153)); have n5_ := Aside0.mk ((by rw [hg]; exact Nat.ne_of_lt (blk_lt (g := gb152) (o := .cells #[.bool false, .int .u64 a0_1, .int .u64 a0_2, .int .u64 a0_3, .int .u64 a0_4] 31 (0, 0)) (by (with_reducible repeat (first | refine blk_drewN ?_ _ | refine blk_drew ?_ | refine blk_alloc ?_ _)); exact BK152.out)) : gb152 ≠ gb153)); have n6_ := Aside0.mk ((by rw [hg]; exact Nat.ne_of_gt (blk_lt (g := gb152) (o := .cells #[.bool false, .int .u64 a0_1, .int .u64 a0_2, .int .u64 a0_3, .int .u64 a0_4] 31 (0, 0)) (by (with_reducible repeat (first | refine blk_drewN ?_ _ | refine blk_drew ?_ | refine blk_alloc ?_ _)); exact BK152.out)) : gb153 ≠ gb152)); clear BK152; clear HB; have BK152 := n0_; have HB := n1_; have BK153 := n2_; have GW153 := n3_; have GE153 := n4_; have NB152_153 := n5_; have NB153_152 := n6_; clear n0_ n1_ n2_ n3_ n4_ n5_ n6_; clear hb hbox hg; have hnb16 := NB152_153.out; have hnc16 := NB153_152.out; have hcz17_0 : w15.cell? ⟨gb152, 0, none⟩ = some (.bool false) := (blk_cell BK152.out 0).trans rfl; have hcz17_1 : w15.cell? ⟨gb152, 1, none⟩ = some (.int .u64 a0_1) := (blk_cell BK152.out 1).trans rfl; have hcz17_2 : w15.cell? ⟨gb152, 2, none⟩ = some (.int .u64 a0_2) := (blk_cell BK152.out 2).trans rfl; have hcz17_3 : w15.cell? ⟨gb152, 3, none⟩ = some (.int .u64 a0_3) := (blk_cell BK152.out 3).trans rfl; have hcz17_4 : w15.cell? ⟨gb152, 4, none⟩ = some (.int .u64 a0_4) := (blk_cell BK152.out 4).trans rfl; have hfz17_0 := blk_frozen BK152.out 0; have hfz17_1 := blk_frozen BK152.out 1; have hfz17_2 := blk_frozen BK152.out 2; have hfz17_3 := blk_frozen BK152.out 3; have hfz17_4 := blk_frozen BK152.out 4; have hcz18_0 : w15.cell? ⟨gb153, 0, none⟩ = some (.int .i64 0) := (blk_cell BK153.out 0).trans rfl; have hcz18_1 : w15.cell? ⟨gb153, 1, none⟩ = some (.int .u64 0) := (blk_cell BK153.out 1).trans rfl; have hfz18_0 := blk_frozen BK153.out 0; have hfz18_1 := blk_frozen BK153.out 1)))
    refine bodyPost_ret (results_cell_row rfl _ _ gb153 25 #[.int .i64 (wrap64 (a0_2)), .int .u64 a0_1] (0, 0) _ rfl (by (with_reducible repeat (first | refine blk_drewN ?_ _ | refine blk_drew ?_ | refine blk_alloc ?_ _)); refine blk_put (cs := #[.int .i64 (wrap64 (a0_2)), .int .u64 0]) ?_ 1 _ rfl; (with_reducible repeat (first | refine blk_drewN ?_ _ | refine blk_drew ?_ | refine blk_alloc ?_ _)); refine blk_put (cs := #[.int .i64 0, .int .u64 0]) ?_ 0 _ rfl; (with_reducible repeat (first | refine blk_drewN ?_ _ | refine blk_drew ?_ | refine blk_alloc ?_ _)); exact BK153.out) Try.underlying25 rfl (by kernel_rfl)) rfl ?_
    exact ⟨by first | rfl | (simp [errW_none, errW_some] <;> rfl) | (simp [*, errW_none, errW_some] <;> rfl), by repeat (first | (with_reducible first | exact HB.out | apply below_alloc | apply pw_below_drewN | apply below_drew1 | refine below_set ?_ GE152.out | refine below_set ?_ GE153.out) | exact HB.out)⟩

/-! ### carouselref1_size: function 39 -/
def carouselref1_size.f (a0 : Int) : Option (Int) := if a0 < 0 then (some (IntKind.u64.wrap ((IntKind.u64.wrap (wrap64 (-(wrap64 (a0 + 1))))) + 1))) else (some (IntKind.u64.wrap (a0)))
set_option maxHeartbeats 8000000 in
set_option maxRecDepth 100000 in
theorem carouselref1_size.calls (a0 : Int) (r : Int) (w : World) (h : carouselref1_size.f a0 = some r) :
    Calls Try.prog 39 #[.int .i64 a0] w fun e w' => e = .returned (.int .u64 r) ∧ Drawn0 w w' := by
  have H : (if a0 < 0 then (some (IntKind.u64.wrap ((IntKind.u64.wrap (wrap64 (-(wrap64 (a0 + 1))))) + 1))) else (some (IntKind.u64.wrap (a0)))) = some r := h
  clear h
  by_cases c2 : a0 < 0
  · rw [if_pos c2] at H
    have c2b0 : decide (a0 < 0) = true := decide_eq_true c2
    clear c2
    obtain rfl := Option.some.inj H
    go_enter Try.func39, Try.ntmps39
    go_wp2
    go_ret
    exact ⟨by first | rfl | (simp; done) | (simp [*]; done), by repeat (first | exact Drawn0.refl _ | apply Drawn0.step)⟩
  · rw [if_neg c2] at H
    have c2b0 : decide (a0 < 0) = false := decide_eq_false c2
    clear c2
    obtain rfl := Option.some.inj H
    go_enter Try.func39, Try.ntmps39
    go_wp2
    go_ret
    exact ⟨by first | rfl | (simp; done) | (simp [*]; done), by repeat (first | exact Drawn0.refl _ | apply Drawn0.step)⟩

/-! ### carouselref1_plus: function 42 -/
/-! ### words for arrays of four cells that lie in memory -/
theorem set_last_ (W : World) (cs : Array Value) (t : TypeId) (n off B : Nat) (v : Value) (hB : B = W.heap.size) : ((W.alloc (.cells cs t)).drewN n).setCell ⟨B, off, none⟩ v = (W.alloc (.cells (cs.setIfInBounds off v) t)).drewN n := by
  subst hB
  unfold World.alloc World.drewN World.setCell
  simp only [World.mk.injEq, and_true]
  apply Array.ext
  · simp
  · intro i h1 h2
    simp at h1 h2
    by_cases c : i = W.heap.size
    · subst c
      simp [Array.getElem_modify, Array.getElem_push]
    · have h3 : i < W.heap.size := by omega
      simp [Array.getElem_modify, Array.getElem_push, Ne.symm c, h3]
theorem set_last3_ (w : World) (o1 o2 o3 : Obj) (cs : Array Value) (t : TypeId) (n off : Nat) (v : Value) : (((((w.alloc o1).alloc o2).alloc o3).alloc (.cells cs t)).drewN n).setCell ⟨w.heap.size + 1 + 1 + 1, off, none⟩ v = ((((w.alloc o1).alloc o2).alloc o3).alloc (.cells (cs.setIfInBounds off v) t)).drewN n :=
  set_last_ _ cs t n off _ v (by simp only [World.alloc, Array.size_push])
theorem set_last4_ (w : World) (o1 o2 o3 : Obj) (cs : Array Value) (t : TypeId) (n m off : Nat) (v : Value) : ((((((w.alloc o1).alloc o2).alloc o3).alloc (.cells cs t)).drewN n).setCell ⟨w.heap.size + 1 + 1 + 1, off, none⟩ v).drewN m = ((((w.alloc o1).alloc o2).alloc o3).alloc (.cells (cs.setIfInBounds off v) t)).drewN (n + m) := by
  rw [set_last3_]
  simp only [World.drewN, Nat.add_assoc]
theorem end4_ (w : World) (o1 o2 o4 : Obj) (t : TypeId) (n : Nat) (z0 z1 z2 z3 v0 v1 v2 v3 : Value) :
    ((((((((((w.alloc o1).alloc o2).alloc (.cells #[z0, z1, z2, z3] t)).alloc o4).drewN n).setCell ⟨w.heap.size + 1 + 1, 0, none⟩ v0).setCell ⟨w.heap.size + 1 + 1, 1, none⟩ v1).setCell ⟨w.heap.size + 1 + 1, 2, none⟩ v2).setCell ⟨w.heap.size + 1 + 1, 3, none⟩ v3).heap[w.heap.size + 1 + 1]? = some (.cells #[v0, v1, v2, v3] t (0, 0))) ∧
    Below w.heap.size w (((((((((w.alloc o1).alloc o2).alloc (.cells #[z0, z1, z2, z3] t)).alloc o4).drewN n).setCell ⟨w.heap.size + 1 + 1, 0, none⟩ v0).setCell ⟨w.heap.size + 1 + 1, 1, none⟩ v1).setCell ⟨w.heap.size + 1 + 1, 2, none⟩ v2).setCell ⟨w.heap.size + 1 + 1, 3, none⟩ v3) := by
  have s2 : ((w.alloc o1).alloc o2).heap.size = w.heap.size + 1 + 1 := by simp only [World.alloc, Array.size_push]
  have s3 : (((w.alloc o1).alloc o2).alloc (.cells #[z0, z1, z2, z3] t)).heap.size = w.heap.size + 1 + 1 + 1 := by simp only [World.alloc, Array.size_push]
  have b := blk_new ((w.alloc o1).alloc o2) (.cells #[z0, z1, z2, z3] t (0, 0))
  rw [s2] at b
  constructor
  · exact blk_put (cs := #[v0, v1, v2, z3]) (blk_put (cs := #[v0, v1, z2, z3]) (blk_put (cs := #[v0, z1, z2, z3]) (blk_put (cs := #[z0, z1, z2, z3]) (blk_drewN (blk_alloc b _) _) 0 _ rfl) 1 _ rfl) 2 _ rfl) 3 _ rfl
  · have h1 := (Below.refl w.heap.size w).alloc (Nat.le_refl _) o1
    have h2 := h1.alloc (by simp only [World.alloc, Array.size_push]; omega) o2
    have h3 := h2.alloc (by rw [s2]; omega) (.cells #[z0, z1, z2, z3] t (0, 0))
    have h4 := h3.alloc (by rw [s3]; omega) o4
    have h5 : Below w.heap.size w (((((w.alloc o1).alloc o2).alloc (.cells #[z0, z1, z2, z3] t (0, 0))).alloc o4).drewN n) := ⟨h4.os, h4.tape, h4.output, h4.size, h4.block⟩
    exact (((h5.setCell (by show w.heap.size ≤ w.heap.size + 1 + 1; omega) _).setCell (by show w.heap.size ≤ w.heap.size + 1 + 1; omega) _).setCell (by show w.heap.size ≤ w.heap.size + 1 + 1; omega) _).setCell (by show w.heap.size ≤ w.heap.size + 1 + 1; omega) _
def carouselref1_plus.s (a b c : Int) : Int := IntKind.u64.wrap (IntKind.u64.wrap (a + b) + c)
def carouselref1_plus.c (a b c : Int) : Int := if IntKind.u64.wrap (a + b) < a then 1 else if carouselref1_plus.s a b c < IntKind.u64.wrap (a + b) then 1 else 0
theorem carouselref1_plus.s_z (a b : Int) : IntKind.u64.wrap (IntKind.u64.wrap (a + b)) = carouselref1_plus.s a b 0 := by unfold carouselref1_plus.s; rw [Int.add_zero]
theorem carouselref1_plus.c_pos (a b c : Int) (h : IntKind.u64.wrap (a + b) < a) : 1 = carouselref1_plus.c a b c := by unfold carouselref1_plus.c; rw [if_pos h]
theorem carouselref1_plus.c_mid (a b c : Int) (h1 : a ≤ IntKind.u64.wrap (a + b)) (h : IntKind.u64.wrap (a + b) < a ∨ IntKind.u64.wrap (IntKind.u64.wrap (a + b) + c) < IntKind.u64.wrap (a + b)) : 1 = carouselref1_plus.c a b c := by
  unfold carouselref1_plus.c carouselref1_plus.s; rw [if_neg (by omega), if_pos (by omega)]
theorem carouselref1_plus.c_neg (a b c : Int) (h1 : a ≤ IntKind.u64.wrap (a + b)) (h2 : a ≤ IntKind.u64.wrap (a + b) ∧ IntKind.u64.wrap (a + b) ≤ IntKind.u64.wrap (IntKind.u64.wrap (a + b) + c)) : 0 = carouselref1_plus.c a b c := by unfold carouselref1_plus.c carouselref1_plus.s; rw [if_neg (by omega), if_neg (by omega)]
theorem carouselref1_plus.c_posz (a b : Int) (h : IntKind.u64.wrap (a + b) < a) : 1 = carouselref1_plus.c a b 0 := carouselref1_plus.c_pos a b 0 h
theorem carouselref1_plus.c_midz (a b : Int) (h1 : a ≤ IntKind.u64.wrap (a + b)) (h : IntKind.u64.wrap (a + b) < a ∨ IntKind.u64.wrap (IntKind.u64.wrap (a + b)) < IntKind.u64.wrap (a + b)) : 1 = carouselref1_plus.c a b 0 := carouselref1_plus.c_mid a b 0 h1 (by rw [Int.add_zero]; exact h)
theorem carouselref1_plus.c_negz (a b : Int) (h1 : a ≤ IntKind.u64.wrap (a + b)) (h2 : a ≤ IntKind.u64.wrap (a + b) ∧ IntKind.u64.wrap (a + b) ≤ IntKind.u64.wrap (IntKind.u64.wrap (a + b))) : 0 = carouselref1_plus.c a b 0 := carouselref1_plus.c_neg a b 0 h1 (by rw [Int.add_zero]; exact h2)
def carouselref1_plus.f (a0_0 : Int) (a0_1 : Int) (a0_2 : Int) (a0_3 : Int) (a1_0 : Int) (a1_1 : Int) (a1_2 : Int) (a1_3 : Int) : Option (Int × Int × Int × Int) := some (carouselref1_plus.s a0_0 a1_0 0, carouselref1_plus.s a0_1 a1_1 (carouselref1_plus.c a0_0 a1_0 0), carouselref1_plus.s a0_2 a1_2 (carouselref1_plus.c a0_1 a1_1 (carouselref1_plus.c a0_0 a1_0 0)), carouselref1_plus.s a0_3 a1_3 (carouselref1_plus.c a0_2 a1_2 (carouselref1_plus.c a0_1 a1_1 (carouselref1_plus.c a0_0 a1_0 0))))
set_option maxHeartbeats 8000000 in
set_option maxRecDepth 100000 in
theorem carouselref1_plus.calls (a0_0 : Int) (a0_1 : Int) (a0_2 : Int) (a0_3 : Int) (a1_0 : Int) (a1_1 : Int) (a1_2 : Int) (a1_3 : Int) (r1 : Int) (r2 : Int) (r3 : Int) (r4 : Int) (w : World) (h : carouselref1_plus.f a0_0 a0_1 a0_2 a0_3 a1_0 a1_1 a1_2 a1_3 = some (r1, r2, r3, r4)) :
    Calls Try.prog 42 #[.agg #[.int .u64 a0_0, .int .u64 a0_1, .int .u64 a0_2, .int .u64 a0_3], .agg #[.int .u64 a1_0, .int .u64 a1_1, .int .u64 a1_2, .int .u64 a1_3]] w fun e w' => e = .returned (.agg #[.int .u64 r1, .int .u64 r2, .int .u64 r3, .int .u64 r4]) ∧ Below w.heap.size w w' := by
  unfold carouselref1_plus.f at h
  have H0 := Aside0.mk h
  clear h
  have hu29 := Try.underlying29
  go_enter Try.func42, Try.ntmps42
  go_wp2
  refine wp_loop_rounds 5 ?_
  rw [rounds_succ]
  go_upto_block 1 with (fail)
  go_cut [6] (fun v6 wc => ∃ (n : Nat) (k0 t0 : Int), v6 = .int .u64 k0 ∧ Aside0 (k0 = carouselref1_plus.c a0_0 a1_0 0) ∧ Aside0 (t0 = carouselref1_plus.s a0_0 a1_0 0) ∧ wc = (((((w.alloc (.cells #[.int .u64 a0_0, .int .u64 a0_1, .int .u64 a0_2, .int .u64 a0_3] 29)).alloc (.cells #[.int .u64 a1_0, .int .u64 a1_1, .int .u64 a1_2, .int .u64 a1_3] 29)).alloc (.cells #[.int .u64 0, .int .u64 0, .int .u64 0, .int .u64 0] 29)).alloc (.cells #[.int .u64 t0, .int .u64 0, .int .u64 0, .int .u64 0] 29))).drewN n)
  case first =>
    go_wp2
    go_quiet (fail)
    go_wp2
    all_goals go_meet
    all_goals first | exact ⟨_, _, _, rfl, ⟨carouselref1_plus.c_posz a0_0 a1_0 (by assumption)⟩, ⟨carouselref1_plus.s_z a0_0 a1_0⟩, set_last3_ _ _ _ _ _ _ _ _ _⟩ | exact ⟨_, _, _, rfl, ⟨carouselref1_plus.c_midz a0_0 a1_0 (by assumption) (by assumption)⟩, ⟨carouselref1_plus.s_z a0_0 a1_0⟩, set_last3_ _ _ _ _ _ _ _ _ _⟩ | exact ⟨_, _, _, rfl, ⟨carouselref1_plus.c_negz a0_0 a1_0 (by assumption) (by assumption)⟩, ⟨carouselref1_plus.s_z a0_0 a1_0⟩, set_last3_ _ _ _ _ _ _ _ _ _⟩
  case rest =>
    obtain ⟨n0, k0, t0, rfl, K0, T0, rfl⟩ := hcut
    go_wp2
    rw [rounds_succ]
    go_upto_block 1 with (fail)
    go_cut [6] (fun v6 wc => ∃ (n : Nat) (k1 t1 : Int), v6 = .int .u64 k1 ∧ Aside0 (k1 = carouselref1_plus.c a0_1 a1_1 k0) ∧ Aside0 (t1 = carouselref1_plus.s a0_1 a1_1 k0) ∧ wc = (((((w.alloc (.cells #[.int .u64 a0_0, .int .u64 a0_1, .int .u64 a0_2, .int .u64 a0_3] 29)).alloc (.cells #[.int .u64 a1_0, .int .u64 a1_1, .int .u64 a1_2, .int .u64 a1_3] 29)).alloc (.cells #[.int .u64 0, .int .u64 0, .int .u64 0, .int .u64 0] 29)).alloc (.cells #[.int .u64 t0, .int .u64 t1, .int .u64 0, .int .u64 0] 29))).drewN n)
    case first =>
      go_wp2
      go_quiet (fail)
      go_wp2
      all_goals go_meet
      all_goals first | exact ⟨_, _, _, rfl, ⟨carouselref1_plus.c_pos a0_1 a1_1 k0 (by assumption)⟩, ⟨rfl⟩, set_last3_ _ _ _ _ _ _ _ _ _⟩ | exact ⟨_, _, _, rfl, ⟨carouselref1_plus.c_mid a0_1 a1_1 k0 (by assumption) (by assumption)⟩, ⟨rfl⟩, set_last3_ _ _ _ _ _ _ _ _ _⟩ | exact ⟨_, _, _, rfl, ⟨carouselref1_plus.c_neg a0_1 a1_1 k0 (by assumption) (by assumption)⟩, ⟨rfl⟩, set_last3_ _ _ _ _ _ _ _ _ _⟩
    case rest =>
      obtain ⟨n1, k1, t1, rfl, K1, T1, rfl⟩ := hcut
      go_wp2
      rw [rounds_succ]
      go_upto_block 1 with (fail)
      go_cut [6] (fun v6 wc => ∃ (n : Nat) (k2 t2 : Int), v6 = .int .u64 k2 ∧ Aside0 (k2 = carouselref1_plus.c a0_2 a1_2 k1) ∧ Aside0 (t2 = carouselref1_plus.s a0_2 a1_2 k1) ∧ wc = (((((w.alloc (.cells #[.int .u64 a0_0, .int .u64 a0_1, .int .u64 a0_2, .int .u64 a0_3] 29)).alloc (.cells #[.int .u64 a1_0, .int .u64 a1_1, .int .u64 a1_2, .int .u64 a1_3] 29)).alloc (.cells #[.int .u64 0, .int .u64 0, .int .u64 0, .int .u64 0] 29)).alloc (.cells #[.int .u64 t0, .int .u64 t1, .int .u64 t2, .int .u64 0] 29))).drewN n)
      case first =>
        go_wp2
        go_quiet (fail)
        go_wp2
        all_goals go_meet
        all_goals first | exact ⟨_, _, _, rfl, ⟨carouselref1_plus.c_pos a0_2 a1_2 k1 (by assumption)⟩, ⟨rfl⟩, set_last3_ _ _ _ _ _ _ _ _ _⟩ | exact ⟨_, _, _, rfl, ⟨carouselref1_plus.c_mid a0_2 a1_2 k1 (by assumption) (by assumption)⟩, ⟨rfl⟩, set_last3_ _ _ _ _ _ _ _ _ _⟩ | exact ⟨_, _, _, rfl, ⟨carouselref1_plus.c_neg a0_2 a1_2 k1 (by assumption) (by assumption)⟩, ⟨rfl⟩, set_last3_ _ _ _ _ _ _ _ _ _⟩
      case rest =>
        obtain ⟨n2, k2, t2, rfl, K2, T2, rfl⟩ := hcut
        go_wp2
        rw [rounds_succ]
        go_upto_block 1 with (fail)
        go_cut [6] (fun v6 wc => ∃ (n : Nat) (k3 t3 : Int), v6 = .int .u64 k3 ∧ Aside0 (k3 = carouselref1_plus.c a0_3 a1_3 k2) ∧ Aside0 (t3 = carouselref1_plus.s a0_3 a1_3 k2) ∧ wc = (((((w.alloc (.cells #[.int .u64 a0_0, .int .u64 a0_1, .int .u64 a0_2, .int .u64 a0_3] 29)).alloc (.cells #[.int .u64 a1_0, .int .u64 a1_1, .int .u64 a1_2, .int .u64 a1_3] 29)).alloc (.cells #[.int .u64 0, .int .u64 0, .int .u64 0, .int .u64 0] 29)).alloc (.cells #[.int .u64 t0, .int .u64 t1, .int .u64 t2, .int .u64 t3] 29))).drewN n)
        case first =>
          go_wp2
          go_quiet (fail)
          go_wp2
          all_goals go_meet
          all_goals first | exact ⟨_, _, _, rfl, ⟨carouselref1_plus.c_pos a0_3 a1_3 k2 (by assumption)⟩, ⟨rfl⟩, set_last3_ _ _ _ _ _ _ _ _ _⟩ | exact ⟨_, _, _, rfl, ⟨carouselref1_plus.c_mid a0_3 a1_3 k2 (by assumption) (by assumption)⟩, ⟨rfl⟩, set_last3_ _ _ _ _ _ _ _ _ _⟩ | exact ⟨_, _, _, rfl, ⟨carouselref1_plus.c_neg a0_3 a1_3 k2 (by assumption) (by assumption)⟩, ⟨rfl⟩, set_last3_ _ _ _ _ _ _ _ _ _⟩
        case rest =>
          obtain ⟨n3, k3, t3, rfl, K3, T3, rfl⟩ := hcut
          go_wp2
          rw [rounds_succ]
          go_wp2
          have E := end4_ w (.cells #[.int .u64 a0_0, .int .u64 a0_1, .int .u64 a0_2, .int .u64 a0_3] 29) (.cells #[.int .u64 a1_0, .int .u64 a1_1, .int .u64 a1_2, .int .u64 a1_3] 29) (.cells #[.int .u64 t0, .int .u64 t1, .int .u64 t2, .int .u64 t3] 29) 29 n3 (.int .u64 0) (.int .u64 0) (.int .u64 0) (.int .u64 0) (.int .u64 t0) (.int .u64 t1) (.int .u64 t2) (.int .u64 t3)
          refine bodyPost_ret (results_cell_row rfl _ _ (w.heap.size + 1 + 1) 29 #[.int .u64 t0, .int .u64 t1, .int .u64 t2, .int .u64 t3] (0, 0) _ rfl E.1 hu29 rfl (by kernel_rfl)) rfl ⟨?_, E.2⟩
          have H := H0.out
          simp only [Option.some.injEq, Prod.mk.injEq] at H
          obtain ⟨rfl, rfl, rfl, rfl⟩ := H
          rw [T0.out, T1.out, T2.out, T3.out, K2.out, K1.out, K0.out]

/-! ### carouselref1_Times: function 38 -/
theorem tm_start_ (w : World) (o1 : Obj) (n : Nat) (cs : Array Value) (t : TypeId) (w4 : World) (hb : Below (((w.alloc o1).drewN n).alloc (.cells cs t)).heap.size (((w.alloc o1).drewN n).alloc (.cells cs t)) w4) :
    w4.heap[w.heap.size + 1]? = some (.cells cs t (0, 0)) ∧ w4.heap[w.heap.size]? = some o1 ∧ Below w.heap.size w w4 := by
  have s1 : ((w.alloc o1).drewN n).heap.size = w.heap.size + 1 := by simp only [World.alloc, World.drewN, Array.size_push]
  have b1 := blk_new ((w.alloc o1).drewN n) (.cells cs t (0, 0))
  rw [s1] at b1
  have b0 : (((w.alloc o1).drewN n).alloc (.cells cs t (0, 0))).heap[w.heap.size]? = some o1 := blk_alloc (blk_drewN (blk_new w o1) n) _
  have h1 : Below w.heap.size w ((w.alloc o1).drewN n) := by
    have h := (Below.refl w.heap.size w).alloc (Nat.le_refl _) o1
    exact ⟨h.os, h.tape, h.output, h.size, h.block⟩
  have h2 := h1.alloc (by rw [s1]; omega) (.cells cs t (0, 0))
  exact ⟨blk_below b1 hb, blk_below b0 hb, h2.trans (hb.mono h2.size)⟩
theorem tm_step_ (w w4 : World) (g : Nat) (o1 : Obj) (t : TypeId) (c0 c1 c2 c3 v0 v1 v2 v3 : Value) (hg : g = w.heap.size + 1) (b1 : w4.heap[g]? = some (.cells #[c0, c1, c2, c3] t (0, 0))) (b0 : w4.heap[w.heap.size]? = some o1) (hb : Below w.heap.size w w4) (w5 : World)
    (e : ((((w4.setCell ⟨g, 0, none⟩ v0).setCell ⟨g, 1, none⟩ v1).setCell ⟨g, 2, none⟩ v2).setCell ⟨g, 3, none⟩ v3) = w5) :
    w5.heap[g]? = some (.cells #[v0, v1, v2, v3] t (0, 0)) ∧ w5.heap[w.heap.size]? = some o1 ∧ Below w.heap.size w w5 := by
  subst e
  have hp : ∀ i, w.heap.size ≤ (⟨g, i, none⟩ : Addr).block := fun i => by show w.heap.size ≤ g; omega
  refine ⟨?_, ?_, (((hb.setCell (hp 0) _).setCell (hp 1) _).setCell (hp 2) _).setCell (hp 3) _⟩
  · exact blk_put (cs := #[v0, v1, v2, c3]) (blk_put (cs := #[v0, v1, c2, c3]) (blk_put (cs := #[v0, c1, c2, c3]) (blk_put (cs := #[c0, c1, c2, c3]) b1 0 _ rfl) 1 _ rfl) 2 _ rfl) 3 _ rfl
  · have q : ∀ i, w.heap.size ≠ (⟨g, i, none⟩ : Addr).block := fun i => by show w.heap.size ≠ g; omega
    rw [Below.heap_setCell _ _ _ _ (q 3), Below.heap_setCell _ _ _ _ (q 2), Below.heap_setCell _ _ _ _ (q 1), Below.heap_setCell _ _ _ _ (q 0)]
    exact b0
theorem tm_call_ (w w5 w6 : World) (g : Nat) (o1 o2 : Obj) (b1 : w5.heap[g]? = some o2) (b0 : w5.heap[w.heap.size]? = some o1) (hb : Below w.heap.size w w5) (h : Below w5.heap.size w5 w6) :
    w6.heap[g]? = some o2 ∧ w6.heap[w.heap.size]? = some o1 ∧ Below w.heap.size w w6 := ⟨blk_below b1 h, blk_below b0 h, hb.trans (h.mono hb.size)⟩
theorem tm_end_ (w w7 : World) (t : TypeId) (z0 z1 z2 z3 z4 v0 v1 v2 v3 v4 : Value) (b0 : w7.heap[w.heap.size]? = some (.cells #[z0, z1, z2, z3, z4] t (0, 0))) (hb : Below w.heap.size w w7) :
    (((((w7.setCell ⟨w.heap.size, 0, none⟩ v0).setCell ⟨w.heap.size, 1, none⟩ v1).setCell ⟨w.heap.size, 2, none⟩ v2).setCell ⟨w.heap.size, 3, none⟩ v3).setCell ⟨w.heap.size, 4, none⟩ v4).heap[w.heap.size]? = some (.cells #[v0, v1, v2, v3, v4] t (0, 0)) ∧
    Below w.heap.size w (((((w7.setCell ⟨w.heap.size, 0, none⟩ v0).setCell ⟨w.heap.size, 1, none⟩ v1).setCell ⟨w.heap.size, 2, none⟩ v2).setCell ⟨w.heap.size, 3, none⟩ v3).setCell ⟨w.heap.size, 4, none⟩ v4) := by
  have hp : ∀ i, w.heap.size ≤ (⟨w.heap.size, i, none⟩ : Addr).block := fun i => Nat.le_refl _
  exact ⟨blk_put (cs := #[v0, v1, v2, v3, z4]) (blk_put (cs := #[v0, v1, v2, z3, z4]) (blk_put (cs := #[v0, v1, z2, z3, z4]) (blk_put (cs := #[v0, z1, z2, z3, z4]) (blk_put (cs := #[z0, z1, z2, z3, z4]) b0 0 _ rfl) 1 _ rfl) 2 _ rfl) 3 _ rfl) 4 _ rfl,
    ((((hb.setCell (hp 0) _).setCell (hp 1) _).setCell (hp 2) _).setCell (hp 3) _).setCell (hp 4) _⟩
theorem carouselref1_Times.ix0 (v0 v1 : Int) (w : World) : (Instr.index 79 (.agg #[.int .u64 v0, .int .u64 v1]) (.int .i64 0)).run Try.prog w = .ok (.int .u64 v0) w := by
  have hi : (Try.prog.info? 23).map (·.size) = some 1 := by kernel_rfl
  cases h : Try.prog.info? 23 with
  | none => rw [h] at hi; cases hi
  | some q =>
    rw [h] at hi
    have hs : q.size = 1 := by simpa using hi
    simp [Instr.index, run_underlying Try.underlying79, asIntOf, part, sizeOf, typeInfo, h, hs, go_sem]
theorem carouselref1_Times.ix1 (v0 v1 : Int) (w : World) : (Instr.index 79 (.agg #[.int .u64 v0, .int .u64 v1]) (.int .i64 1)).run Try.prog w = .ok (.int .u64 v1) w := by
  have hi : (Try.prog.info? 23).map (·.size) = some 1 := by kernel_rfl
  cases h : Try.prog.info? 23 with
  | none => rw [h] at hi; cases hi
  | some q =>
    rw [h] at hi
    have hs : q.size = 1 := by simpa using hi
    simp [Instr.index, run_underlying Try.underlying79, asIntOf, part, sizeOf, typeInfo, h, hs, go_sem]
def carouselref1_Times.f (a0 : Int) (a1 : Int) : Option (Bool × Int × Int × Int × Int) := (carouselref1_size.f a0).bind fun x => ((carouselref1_size.f a1).bind fun y => ((carouselref1_plus.f (IntKind.u64.wrap (Go.bits .and .u64 x 4294967295 * Go.bits .and .u64 y 4294967295)) (IntKind.u64.wrap (x / 4294967296 * (y / 4294967296))) 0 0 (IntKind.u64.wrap (IntKind.u64.wrap (Go.bits .and .u64 x 4294967295 * (y / 4294967296)) * 4294967296)) (IntKind.u64.wrap (Go.bits .and .u64 x 4294967295 * (y / 4294967296)) / 4294967296) 0 0).bind fun p => ((carouselref1_plus.f p.1 p.2.1 p.2.2.1 p.2.2.2 (IntKind.u64.wrap (IntKind.u64.wrap (x / 4294967296 * Go.bits .and .u64 y 4294967295) * 4294967296)) (IntKind.u64.wrap (x / 4294967296 * Go.bits .and .u64 y 4294967295) / 4294967296) 0 0).bind fun q => (some ((decide (a0 < 0)) != (decide (a1 < 0)), q.1, q.2.1, q.2.2.1, q.2.2.2)))))
set_option maxHeartbeats 8000000 in
set_option maxRecDepth 100000 in
theorem carouselref1_Times.calls (a0 : Int) (a1 : Int) (r1 : Bool) (r2 : Int) (r3 : Int) (r4 : Int) (r5 : Int) (w : World) (h : carouselref1_Times.f a0 a1 = some (r1, r2, r3, r4, r5)) :
    Calls Try.prog 38 #[.int .i64 a0, .int .i64 a1] w fun e w' => e = .returned (.agg #[.bool r1, .int .u64 r2, .int .u64 r3, .int .u64 r4, .int .u64 r5]) ∧ Below w.heap.size w w' := by
  unfold carouselref1_Times.f at h
  obtain ⟨x, hx, h⟩ := Option.bind_eq_some_iff.mp h
  obtain ⟨y, hy, h⟩ := Option.bind_eq_some_iff.mp h
  obtain ⟨⟨p0, p1, p2, p3⟩, hp, h⟩ := Option.bind_eq_some_iff.mp h
  obtain ⟨⟨q0, q1, q2, q3⟩, hq, h⟩ := Option.bind_eq_some_iff.mp h
  simp only [Option.some.injEq, Prod.mk.injEq] at h
  obtain ⟨rfl, rfl, rfl, rfl, rfl⟩ := h
  have sa := fun w => carouselref1_size.calls a0 x w hx
  have sb := fun w => carouselref1_size.calls a1 y w hy
  have s1 := fun w => carouselref1_plus.calls _ _ _ _ _ _ _ _ p0 p1 p2 p3 w hp
  have s2 := fun w => carouselref1_plus.calls _ _ _ _ _ _ _ _ q0 q1 q2 q3 w hq
  clear hx hy hp hq
  have hu29 := Try.underlying29
  have hu31 := Try.underlying31
  have hu79 := Try.underlying79
  have hix0 := carouselref1_Times.ix0
  have hix1 := carouselref1_Times.ix1
  have SA := Aside0.mk sa
  have SB := Aside0.mk sb
  have S1 := Aside0.mk s1
  have S2 := Aside0.mk s2
  clear sa sb s1 s2
  go_enter Try.func38, Try.ntmps38
  go_wp2_with (first | ((with_reducible refine gate_dst (N := 15) rfl ?_); refine goesL_ (some 15) rfl rfl Try.func39 (by kernel_rfl) rfl #[.int .i64 a0] rfl (by (try simp only [List.map_toArray, List.map_cons, List.map_nil]); first | done | rfl) ?_; (with_reducible refine (SA.out _).mono ?_); rintro e w' ⟨rfl, ⟨nd, rfl⟩⟩; refine ⟨_, rfl, ?_⟩) | ((with_reducible refine gate_dst (N := 17) rfl ?_); refine goesL_ (some 17) rfl rfl Try.func39 (by kernel_rfl) rfl #[.int .i64 a1] rfl (by (try simp only [List.map_toArray, List.map_cons, List.map_nil]); first | done | rfl) ?_; (with_reducible refine (SB.out _).mono ?_); rintro e w' ⟨rfl, ⟨nd, rfl⟩⟩; refine ⟨_, rfl, ?_⟩))
  refine wp_loop_rounds 3 ?_
  rw [rounds_succ]
  go_wp2_with (((with_reducible refine gate_dst (N := 49) rfl ?_); refine goesL_ (some 49) rfl rfl Try.func42 (by kernel_rfl) rfl #[.agg #[.int .u64 (IntKind.u64.wrap (Go.bits .and .u64 x 4294967295 * Go.bits .and .u64 y 4294967295)), .int .u64 (IntKind.u64.wrap (x / 4294967296 * (y / 4294967296))), .int .u64 0, .int .u64 0], .agg #[.int .u64 (IntKind.u64.wrap (IntKind.u64.wrap (Go.bits .and .u64 x 4294967295 * (y / 4294967296)) * 4294967296)), .int .u64 (IntKind.u64.wrap (Go.bits .and .u64 x 4294967295 * (y / 4294967296)) / 4294967296), .int .u64 0, .int .u64 0]] rfl (by (try simp only [List.map_toArray, List.map_cons, List.map_nil]); first | done | rfl) ?_; (with_reducible refine (S1.out _).mono ?_); rintro e w4 ⟨rfl, hb⟩; refine ⟨_, rfl, ?_⟩; have F4 := Aside0.mk (tm_start_ w _ _ _ _ w4 hb); clear hb; have hc4_0 : w4.cell? ⟨w.heap.size + 1, 0, none⟩ = some (.int .u64 (IntKind.u64.wrap (Go.bits .and .u64 x 4294967295 * Go.bits .and .u64 y 4294967295))) := (blk_cell F4.out.1 0).trans rfl; have hf4_0 := blk_frozen F4.out.1 0; have hc4_1 : w4.cell? ⟨w.heap.size + 1, 1, none⟩ = some (.int .u64 (IntKind.u64.wrap (x / 4294967296 * (y / 4294967296)))) := (blk_cell F4.out.1 1).trans rfl; have hf4_1 := blk_frozen F4.out.1 1; have hc4_2 : w4.cell? ⟨w.heap.size + 1, 2, none⟩ = some (.int .u64 0) := (blk_cell F4.out.1 2).trans rfl; have hf4_2 := blk_frozen F4.out.1 2; have hc4_3 : w4.cell? ⟨w.heap.size + 1, 3, none⟩ = some (.int .u64 0) := (blk_cell F4.out.1 3).trans rfl; have hf4_3 := blk_frozen F4.out.1 3))
  generalize hW : ((((w4.setCell ⟨w.heap.size + 1, 0, none⟩ (.int .u64 p0)).setCell ⟨w.heap.size + 1, 1, none⟩ (.int .u64 p1)).setCell ⟨w.heap.size + 1, 2, none⟩ (.int .u64 p2)).setCell ⟨w.heap.size + 1, 3, none⟩ (.int .u64 p3)) = w5
  have F5 := Aside0.mk (tm_step_ w w4 (w.heap.size + 1) _ _ _ _ _ _ _ _ _ _ rfl F4.out.1 F4.out.2.1 F4.out.2.2 w5 hW)
  clear hW hc4_0 hc4_1 hc4_2 hc4_3 hf4_0 hf4_1 hf4_2 hf4_3
  have hc5_0 : w5.cell? ⟨w.heap.size + 1, 0, none⟩ = some (.int .u64 p0) := (blk_cell F5.out.1 0).trans rfl
  have hf5_0 := blk_frozen F5.out.1 0
  have hc5_1 : w5.cell? ⟨w.heap.size + 1, 1, none⟩ = some (.int .u64 p1) := (blk_cell F5.out.1 1).trans rfl
  have hf5_1 := blk_frozen F5.out.1 1
  have hc5_2 : w5.cell? ⟨w.heap.size + 1, 2, none⟩ = some (.int .u64 p2) := (blk_cell F5.out.1 2).trans rfl
  have hf5_2 := blk_frozen F5.out.1 2
  have hc5_3 : w5.cell? ⟨w.heap.size + 1, 3, none⟩ = some (.int .u64 p3) := (blk_cell F5.out.1 3).trans rfl
  have hf5_3 := blk_frozen F5.out.1 3
  rw [rounds_succ]
  go_wp2_with (((with_reducible refine gate_dst (N := 49) rfl ?_); refine goesL_ (some 49) rfl rfl Try.func42 (by kernel_rfl) rfl #[.agg #[.int .u64 p0, .int .u64 p1, .int .u64 p2, .int .u64 p3], .agg #[.int .u64 (IntKind.u64.wrap (IntKind.u64.wrap (x / 4294967296 * Go.bits .and .u64 y 4294967295) * 4294967296)), .int .u64 (IntKind.u64.wrap (x / 4294967296 * Go.bits .and .u64 y 4294967295) / 4294967296), .int .u64 0, .int .u64 0]] rfl (by (try simp only [List.map_toArray, List.map_cons, List.map_nil]); first | done | rfl) ?_; (with_reducible refine (S2.out _).mono ?_); rintro e w6 ⟨rfl, hb⟩; refine ⟨_, rfl, ?_⟩; have F6 := Aside0.mk (tm_call_ w w5 w6 (w.heap.size + 1) _ _ F5.out.1 F5.out.2.1 F5.out.2.2 hb); clear hb; have hc6_0 : w6.cell? ⟨w.heap.size + 1, 0, none⟩ = some (.int .u64 p0) := (blk_cell F6.out.1 0).trans rfl; have hf6_0 := blk_frozen F6.out.1 0; have hc6_1 : w6.cell? ⟨w.heap.size + 1, 1, none⟩ = some (.int .u64 p1) := (blk_cell F6.out.1 1).trans rfl; have hf6_1 := blk_frozen F6.out.1 1; have hc6_2 : w6.cell? ⟨w.heap.size + 1, 2, none⟩ = some (.int .u64 p2) := (blk_cell F6.out.1 2).trans rfl; have hf6_2 := blk_frozen F6.out.1 2; have hc6_3 : w6.cell? ⟨w.heap.size + 1, 3, none⟩ = some (.int .u64 p3) := (blk_cell F6.out.1 3).trans rfl; have hf6_3 := blk_frozen F6.out.1 3))
  generalize hW : ((((w6.setCell ⟨w.heap.size + 1, 0, none⟩ (.int .u64 q0)).setCell ⟨w.heap.size + 1, 1, none⟩ (.int .u64 q1)).setCell ⟨w.heap.size + 1, 2, none⟩ (.int .u64 q2)).setCell ⟨w.heap.size + 1, 3, none⟩ (.int .u64 q3)) = w7
  have F7 := Aside0.mk (tm_step_ w w6 (w.heap.size + 1) _ _ _ _ _ _ _ _ _ _ rfl F6.out.1 F6.out.2.1 F6.out.2.2 w7 hW)
  clear hW
  have hc7_0 : w7.cell? ⟨w.heap.size + 1, 0, none⟩ = some (.int .u64 q0) := (blk_cell F7.out.1 0).trans rfl
  have hf7_0 := blk_frozen F7.out.1 0
  have hc7_1 : w7.cell? ⟨w.heap.size + 1, 1, none⟩ = some (.int .u64 q1) := (blk_cell F7.out.1 1).trans rfl
  have hf7_1 := blk_frozen F7.out.1 1
  have hc7_2 : w7.cell? ⟨w.heap.size + 1, 2, none⟩ = some (.int .u64 q2) := (blk_cell F7.out.1 2).trans rfl
  have hf7_2 := blk_frozen F7.out.1 2
  have hc7_3 : w7.cell? ⟨w.heap.size + 1, 3, none⟩ = some (.int .u64 q3) := (blk_cell F7.out.1 3).trans rfl
  have hf7_3 := blk_frozen F7.out.1 3
  have hr_0 : w7.cell? ⟨w.heap.size, 0, none⟩ = some (.bool false) := (blk_cell F7.out.2.1 0).trans rfl
  have hq_0 := blk_frozen F7.out.2.1 0
  have hr_1 : w7.cell? ⟨w.heap.size, 1, none⟩ = some (.int .u64 0) := (blk_cell F7.out.2.1 1).trans rfl
  have hq_1 := blk_frozen F7.out.2.1 1
  have hr_2 : w7.cell? ⟨w.heap.size, 2, none⟩ = some (.int .u64 0) := (blk_cell F7.out.2.1 2).trans rfl
  have hq_2 := blk_frozen F7.out.2.1 2
  have hr_3 : w7.cell? ⟨w.heap.size, 3, none⟩ = some (.int .u64 0) := (blk_cell F7.out.2.1 3).trans rfl
  have hq_3 := blk_frozen F7.out.2.1 3
  have hr_4 : w7.cell? ⟨w.heap.size, 4, none⟩ = some (.int .u64 0) := (blk_cell F7.out.2.1 4).trans rfl
  have hq_4 := blk_frozen F7.out.2.1 4
  rw [rounds_succ]
  go_wp2
  have E := tm_end_ w w7 31 _ _ _ _ _ (.bool (!(decide (a0 < 0) == decide (a1 < 0)))) (.int .u64 q0) (.int .u64 q1) (.int .u64 q2) (.int .u64 q3) F7.out.2.1 F7.out.2.2
  exact bodyPost_ret (results_cell_row rfl _ _ w.heap.size 31 #[.bool (!(decide (a0 < 0) == decide (a1 < 0))), .int .u64 q0, .int .u64 q1, .int .u64 q2, .int .u64 q3] (0, 0) _ rfl E.1 hu31 rfl (by kernel_rfl)) rfl ⟨rfl, E.2⟩

/-! ### carouselref1_Prod: function 13 -/
def carouselref1_Prod.f (a0 : Int) (a1 : Int) : Option (Int × Int) := (carouselref1_Times.f a0 a1).bind fun bt155 => ((carouselref1_Wide.f bt155.1 bt155.2.1 bt155.2.2.1 bt155.2.2.2.1 bt155.2.2.2.2).bind fun bt160 => (some (bt160.1, bt160.2)))
set_option maxHeartbeats 8000000 in
set_option maxRecDepth 100000 in
theorem carouselref1_Prod.calls (a0 : Int) (a1 : Int) (r1 : Int) (r2 : Int) (w : World) (h : carouselref1_Prod.f a0 a1 = some (r1, r2)) :
    Calls Try.prog 13 #[.int .i64 a0, .int .i64 a1] w fun e w' => e = .returned (.agg #[.int .i64 r1, .int .u64 r2]) ∧ Below w.heap.size w w' := by
  have hu25 := Try.underlying25
  have HB := Aside0.mk (Below.refl w.heap.size w)
  have H : ((carouselref1_Times.f a0 a1).bind fun bt155 => ((carouselref1_Wide.f bt155.1 bt155.2.1 bt155.2.2.1 bt155.2.2.2.1 bt155.2.2.2.2).bind fun bt160 => (some (bt160.1, bt160.2)))) = some (r1, r2) := h
  clear h
  replace H := Option.bind_eq_some_iff.mp H
  obtain ⟨⟨t155, t156, t157, t158, t159⟩, A30, H⟩ := H
  replace H : ((carouselref1_Wide.f t155 t156 t157 t158 t159).bind fun bt160 => (some (bt160.1, bt160.2))) = some (r1, r2) := H
  have A3 := Aside0.mk A30
  clear A30
  replace H := Option.bind_eq_some_iff.mp H
  obtain ⟨⟨t160, t161⟩, A40, H⟩ := H
  replace H : (some (t160, t161)) = some (r1, r2) := H
  have A4 := Aside0.mk A40
  clear A40
  simp only [Option.some.injEq, Prod.mk.injEq] at H
  obtain ⟨rfl, rfl⟩ := H
  go_enter Try.func13, Try.ntmps13
  go_wp2_with (first | ((with_reducible refine gate_dst (N := 4) rfl ?_); refine box_event ?hg (N := 4) ?hd (cs := #[.int .i64 0, .int .u64 0]) (t := 25) ?hr ?_; (case hd => rfl); (case hg => rfl); (case hr => first | (go_simp; done) | (go_simp; rfl)); intro gb154 hg w5 hbox hb; have n0_ := Aside0.mk (below_step (by repeat (first | (with_reducible first | exact HB.out | apply below_alloc | apply pw_below_drewN | apply below_drew1) | exact HB.out)) hb); have n1_ := Aside0.mk (hbox); have n2_ := Aside0.mk ((by rw [hg]; exact (below_size (by repeat (first | (with_reducible first | exact HB.out | apply below_alloc | apply pw_below_drewN | apply below_drew1) | exact HB.out))) : w.heap.size ≤ gb154)); have n3_ := Aside0.mk ((by rw [hg]; exact (below_size (by repeat (first | (with_reducible first | exact HB.out | apply below_alloc | apply pw_below_drewN | apply below_drew1) | exact HB.out))) : w.heap.size ≤ gb154)); clear HB; have HB := n0_; have BK154 := n1_; have GW154 := n2_; have GE154 := n3_; clear n0_ n1_ n2_ n3_; clear hb hbox hg) | ((with_reducible refine gate_callee (f := 38) rfl ?_); refine goesL_ (some 7) rfl rfl Try.func38 (by kernel_rfl) rfl #[.int .i64 a0, .int .i64 a1] rfl (by (try simp only [List.map_toArray, List.map_cons, List.map_nil]); first | done | rfl | (simp only [List.length_drop, List.length_take]; rfl)) ?_; (with_reducible refine (carouselref1_Times.calls a0 a1 t155 t156 t157 t158 t159 _ A3.out).mono ?_); rintro e w6 ⟨rfl, hb⟩; refine ⟨_, rfl, ?_⟩; have n0_ := Aside0.mk (blk_below (g := gb154) (o := .cells #[.int .i64 0, .int .u64 0] 25 (0, 0)) (by (with_reducible repeat (first | refine blk_drewN ?_ _ | refine blk_drew ?_ | refine blk_alloc ?_ _)); exact BK154.out) hb); have n1_ := Aside0.mk (below_step (by repeat (first | (with_reducible first | exact HB.out | apply below_alloc | apply pw_below_drewN | apply below_drew1 | refine below_set ?_ GE154.out) | exact HB.out)) hb); clear BK154; clear HB; have BK154 := n0_; have HB := n1_; clear n0_ n1_; (try clear hb); (try clear hb2); (try clear hk); (try clear hi)) | ((with_reducible refine gate_callee (f := 15) rfl ?_); refine goesL_ (some 8) rfl rfl Try.func15 (by kernel_rfl) rfl #[.agg #[.bool t155, .int .u64 t156, .int .u64 t157, .int .u64 t158, .int .u64 t159]] rfl (by (try simp only [List.map_toArray, List.map_cons, List.map_nil]); first | done | rfl | (simp only [List.length_drop, List.length_take]; rfl)) ?_; (with_reducible refine (carouselref1_Wide.calls t155 t156 t157 t158 t159 t160 t161 _ A4.out).mono ?_); rintro e w7 ⟨rfl, hb⟩; refine ⟨_, rfl, ?_⟩; have n0_ := Aside0.mk (blk_below (g := gb154) (o := .cells #[.int .i64 0, .int .u64 0] 25 (0, 0)) (by (with_reducible repeat (first | refine blk_drewN ?_ _ | refine blk_drew ?_ | refine blk_alloc ?_ _)); exact BK154.out) hb); have n1_ := Aside0.mk (below_step (by repeat (first | (with_reducible first | exact HB.out | apply below_alloc | apply pw_below_drewN | apply below_drew1 | refine below_set ?_ GE154.out) | exact HB.out)) hb); clear BK154; clear HB; have BK154 := n0_; have HB := n1_; clear n0_ n1_; (try clear hb); (try clear hb2); (try clear hk); (try clear hi); have hcz8_0 : w7.cell? ⟨gb154, 0, none⟩ = some (.int .i64 0) := (blk_cell BK154.out 0).trans rfl; have hcz8_1 : w7.cell? ⟨gb154, 1, none⟩ = some (.int .u64 0) := (blk_cell BK154.out 1).trans rfl; have hfz8_0 := blk_frozen BK154.out 0; have hfz8_1 := blk_frozen BK154.out 1))
  refine bodyPost_ret (results_cell_row rfl _ _ gb154 25 #[.int .i64 t160, .int .u64 t161] (0, 0) _ rfl (by (with_reducible repeat (first | refine blk_drewN ?_ _ | refine blk_drew ?_ | refine blk_alloc ?_ _)); refine blk_put (cs := #[.int .i64 t160, .int .u64 0]) ?_ 1 _ rfl; (with_reducible repeat (first | refine blk_drewN ?_ _ | refine blk_drew ?_ | refine blk_alloc ?_ _)); refine blk_put (cs := #[.int .i64 0, .int .u64 0]) ?_ 0 _ rfl; (with_reducible repeat (first | refine blk_drewN ?_ _ | refine blk_drew ?_ | refine blk_alloc ?_ _)); exact BK154.out) Try.underlying25 rfl (by kernel_rfl)) rfl ?_
  exact ⟨by first | rfl | (simp [errW_none, errW_some] <;> rfl) | (simp [*, errW_none, errW_some] <;> rfl), by repeat (first | (with_reducible first | exact HB.out | apply below_alloc | apply pw_below_drewN | apply below_drew1 | refine below_set ?_ GE154.out) | exact HB.out)⟩

/-! ### carouselref1_From: function 16 -/
def carouselref1_From.f (a0 : Int) : Option (Bool × Int × Int × Int × Int) := (carouselref1_size.f a0).bind fun t163 => (some (decide (a0 < 0), t163, 0, 0, 0))
set_option maxHeartbeats 8000000 in
set_option maxRecDepth 100000 in
theorem carouselref1_From.calls (a0 : Int) (r1 : Bool) (r2 : Int) (r3 : Int) (r4 : Int) (r5 : Int) (w : World) (h : carouselref1_From.f a0 = some (r1, r2, r3, r4, r5)) :
    Calls Try.prog 16 #[.int .i64 a0] w fun e w' => e = .returned (.agg #[.bool r1, .int .u64 r2, .int .u64 r3, .int .u64 r4, .int .u64 r5]) ∧ Below w.heap.size w w' := by
  have hu31 := Try.underlying31
  have hu29 := Try.underlying29
  have HB := Aside0.mk (Below.refl w.heap.size w)
  have H : ((carouselref1_size.f a0).bind fun t163 => (some (decide (a0 < 0), t163, 0, 0, 0))) = some (r1, r2, r3, r4, r5) := h
  clear h
  replace H := Option.bind_eq_some_iff.mp H
  obtain ⟨t163, A20, H⟩ := H
  replace H : (some (decide (a0 < 0), t163, 0, 0, 0)) = some (r1, r2, r3, r4, r5) := H
  have A2 := Aside0.mk A20
  clear A20
  simp only [Option.some.injEq, Prod.mk.injEq] at H
  obtain ⟨rfl, rfl, rfl, rfl, rfl⟩ := H
  go_enter Try.func16, Try.ntmps16
  go_wp2_with (first | ((with_reducible refine gate_dst (N := 2) rfl ?_); refine box_event ?hg (N := 2) ?hd (cs := #[.bool false, .int .u64 0, .int .u64 0, .int .u64 0, .int .u64 0]) (t := 31) ?hr ?_; (case hd => rfl); (case hg => rfl); (case hr => first | (go_simp; done) | (go_simp; rfl)); intro gb162 hg w3 hbox hb; have n0_ := Aside0.mk (below_step (by repeat (first | (with_reducible first | exact HB.out | apply below_alloc | apply pw_below_drewN | apply below_drew1) | exact HB.out)) hb); have n1_ := Aside0.mk (hbox); have n2_ := Aside0.mk ((by rw [hg]; exact (below_size (by repeat (first | (with_reducible first | exact HB.out | apply below_alloc | apply pw_below_drewN | apply below_drew1) | exact HB.out))) : w.heap.size ≤ gb162)); have n3_ := Aside0.mk ((by rw [hg]; exact (below_size (by repeat (first | (with_reducible first | exact HB.out | apply below_alloc | apply pw_below_drewN | apply below_drew1) | exact HB.out))) : w.heap.size ≤ gb162)); clear HB; have HB := n0_; have BK162 := n1_; have GW162 := n2_; have GE162 := n3_; clear n0_ n1_ n2_ n3_; clear hb hbox hg) | ((with_reducible refine gate_callee (f := 39) rfl ?_); refine goesL_ (some 6) rfl rfl Try.func39 (by kernel_rfl) rfl #[.int .i64 a0] rfl (by (try simp only [List.map_toArray, List.map_cons, List.map_nil]); first | done | rfl | (simp only [List.length_drop, List.length_take]; rfl)) ?_; (with_reducible refine (carouselref1_size.calls a0 t163 _ A2.out).mono ?_); rintro e w' ⟨rfl, ⟨nd, rfl⟩⟩; refine ⟨_, rfl, ?_⟩; (try (rw [drewN_self w3]; generalize hq_ : World.drewN w3 _ = w3; have n0_ : Aside0 (w3.heap[gb162]? = some (.cells #[.bool false, .int .u64 0, .int .u64 0, .int .u64 0, .int .u64 0] 31 (0, 0))) := ⟨by rw [← hq_]; exact (by (with_reducible repeat (first | refine blk_drewN ?_ _ | refine blk_drew ?_ | refine blk_alloc ?_ _)); exact BK162.out)⟩; have n1_ : Aside0 (Below w.heap.size w w3) := ⟨by rw [← hq_]; exact (by repeat (first | (with_reducible first | exact HB.out | apply below_alloc | apply pw_below_drewN | apply below_drew1 | refine below_set ?_ GE162.out) | exact HB.out))⟩; clear BK162 HB hq_; have BK162 := n0_; have HB := n1_; clear n0_ n1_)); have hcz4_0 : w3.cell? ⟨gb162, 0, none⟩ = some (.bool false) := (blk_cell BK162.out 0).trans rfl; have hcz4_1 : w3.cell? ⟨gb162, 1, none⟩ = some (.int .u64 0) := (blk_cell BK162.out 1).trans rfl; have hcz4_2 : w3.cell? ⟨gb162, 2, none⟩ = some (.int .u64 0) := (blk_cell BK162.out 2).trans rfl; have hcz4_3 : w3.cell? ⟨gb162, 3, none⟩ = some (.int .u64 0) := (blk_cell BK162.out 3).trans rfl; have hcz4_4 : w3.cell? ⟨gb162, 4, none⟩ = some (.int .u64 0) := (blk_cell BK162.out 4).trans rfl; have hfz4_0 := blk_frozen BK162.out 0; have hfz4_1 := blk_frozen BK162.out 1; have hfz4_2 := blk_frozen BK162.out 2; have hfz4_3 := blk_frozen BK162.out 3; have hfz4_4 := blk_frozen BK162.out 4))
  refine bodyPost_ret (results_cell_row rfl _ _ gb162 31 #[.bool (decide (a0 < 0)), .int .u64 t163, .int .u64 0, .int .u64 0, .int .u64 0] (0, 0) _ rfl (by (with_reducible repeat (first | refine blk_drewN ?_ _ | refine blk_drew ?_ | refine blk_alloc ?_ _)); refine blk_put (cs := #[.bool (decide (a0 < 0)), .int .u64 t163, .int .u64 0, .int .u64 0, .int .u64 0]) ?_ 4 _ rfl; (with_reducible repeat (first | refine blk_drewN ?_ _ | refine blk_drew ?_ | refine blk_alloc ?_ _)); refine blk_put (cs := #[.bool (decide (a0 < 0)), .int .u64 t163, .int .u64 0, .int .u64 0, .int .u64 0]) ?_ 3 _ rfl; (with_reducible repeat (first | refine blk_drewN ?_ _ | refine blk_drew ?_ | refine blk_alloc ?_ _)); refine blk_put (cs := #[.bool (decide (a0 < 0)), .int .u64 t163, .int .u64 0, .int .u64 0, .int .u64 0]) ?_ 2 _ rfl; (with_reducible repeat (first | refine blk_drewN ?_ _ | refine blk_drew ?_ | refine blk_alloc ?_ _)); refine blk_put (cs := #[.bool (decide (a0 < 0)), .int .u64 0, .int .u64 0, .int .u64 0, .int .u64 0]) ?_ 1 _ rfl; (with_reducible repeat (first | refine blk_drewN ?_ _ | refine blk_drew ?_ | refine blk_alloc ?_ _)); refine blk_put (cs := #[.bool false, .int .u64 0, .int .u64 0, .int .u64 0, .int .u64 0]) ?_ 0 _ rfl; (with_reducible repeat (first | refine blk_drewN ?_ _ | refine blk_drew ?_ | refine blk_alloc ?_ _)); exact BK162.out) Try.underlying31 rfl (by kernel_rfl)) rfl ?_
  exact ⟨by first | rfl | (simp [errW_none, errW_some] <;> rfl) | (simp [*, errW_none, errW_some] <;> rfl), by repeat (first | (with_reducible first | exact HB.out | apply below_alloc | apply pw_below_drewN | apply below_drew1 | refine below_set ?_ GE162.out) | exact HB.out)⟩

end Go.Proofs.Ytalghnbolnimiaa.PWideProds
