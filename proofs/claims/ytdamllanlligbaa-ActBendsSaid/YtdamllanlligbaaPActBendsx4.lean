/- The functions that the law ActBends reaches, as Lean functions, and that each call of the Go function does what its Lean function says, wherever that one answers. Written by a program of mine over the print of the kit; Lean checks it. -/
import Derived.Test.YtdamllanlligbaaPActBendsx0
namespace Go.Proofs.Ytdamllanlligbaa.PActBends
open Go.RowKit Go.Proofs.YtdamllanlligbaaW.PrintWords Go.Proofs.YtdamllanlligbaaW.PrintLast Go.Proofs.YtdamllanlligbaaW.PrintMore
attribute [local go_sem] max2_int min2_int max_two min_two max_three min_three max_four min_four   -- for this text's walks alone
set_option linter.unusedVariables false
set_option linter.unusedSimpArgs false

/-! ### carouselref1_Held: function 33 -/
def carouselref1_Held.j0 : Nat → Bool → Bool → Int → Int → Int → Int → Option (Int)
  | 0, _, _, _, _, _, _ => none
  | k + 1, x20, x132000, x132001, x132002, x132003, x132004 => if x20 = true then (if x132000 = true then (some (-9223372036854775808)) else (some 9223372036854775807)) else (if x132000 = true then (some (wrap64 (-(wrap64 (x132001))))) else (some (wrap64 (x132001))))
def carouselref1_Held.f (k : Nat) (a0_0 : Bool) (a0_1 : Int) (a0_2 : Int) (a0_3 : Int) (a0_4 : Int) : Option (Int) := if (Go.bits .or .u64 (Go.bits .or .u64 a0_2 a0_3) a0_4) = 0 then (carouselref1_Held.j0 k (decide (a0_1 ≥ 9223372036854775808)) a0_0 a0_1 a0_2 a0_3 a0_4) else (carouselref1_Held.j0 k true a0_0 a0_1 a0_2 a0_3 a0_4)
theorem carouselref1_Held.mono_l : ∀ k, (∀ y0 y1 y2 y3 y4 y5, LeO (carouselref1_Held.j0 k y0 y1 y2 y3 y4 y5) (carouselref1_Held.j0 (k + 1) y0 y1 y2 y3 y4 y5))
  | 0 => fun _ _ _ _ _ _ r h => by simp [carouselref1_Held.j0] at h
  | k + 1 => by
    have ih0 := carouselref1_Held.mono_l k
    · intro y0 y1 y2 y3 y4 y5
      unfold carouselref1_Held.j0
      repeat' first
      | (with_reducible exact ih0 _ _ _ _ _ _)
      | (with_reducible exact LeO.refl _)
      | (with_reducible exact LeO.none _)
      | (with_reducible refine LeO.ite ?_ ?_)
      | (with_reducible refine LeO.bind ?_ (fun _ => ?_))
      | exact ih0 _ _ _ _ _ _
      | exact LeO.none _
      | refine LeO.ite ?_ ?_
      | refine LeO.bind ?_ (fun _ => ?_)
theorem carouselref1_Held.mono : ∀ a0 a1 a2 a3 a4 k, LeO (carouselref1_Held.f k a0 a1 a2 a3 a4) (carouselref1_Held.f (k + 1) a0 a1 a2 a3 a4) := by
  intro a0 a1 a2 a3 a4 k
  have ih0 := carouselref1_Held.mono_l k
  unfold carouselref1_Held.f
  repeat' first
      | (with_reducible exact ih0 _ _ _ _ _ _)
      | (with_reducible exact LeO.refl _)
      | (with_reducible exact LeO.none _)
      | (with_reducible refine LeO.ite ?_ ?_)
      | (with_reducible refine LeO.bind ?_ (fun _ => ?_))
      | exact ih0 _ _ _ _ _ _
      | exact LeO.none _
      | refine LeO.ite ?_ ?_
      | refine LeO.bind ?_ (fun _ => ?_)
set_option maxHeartbeats 8000000 in
set_option maxRecDepth 100000 in
theorem carouselref1_Held.calls (k : Nat) (a0_0 : Bool) (a0_1 : Int) (a0_2 : Int) (a0_3 : Int) (a0_4 : Int) (r : Int) (w : World) (h : carouselref1_Held.f k a0_0 a0_1 a0_2 a0_3 a0_4 = some r) :
    Calls Try.prog 33 #[.agg #[.bool a0_0, .int .u64 a0_1, .int .u64 a0_2, .int .u64 a0_3, .int .u64 a0_4]] w fun e w' => e = .returned (.int .i64 r) ∧ Below w.heap.size w w' := by
  have hu51 := Try.underlying51
  have HB := Aside0.mk (Below.refl w.heap.size w)
  have H : (if (Go.bits .or .u64 (Go.bits .or .u64 a0_2 a0_3) a0_4) = 0 then (carouselref1_Held.j0 k (decide (a0_1 ≥ 9223372036854775808)) a0_0 a0_1 a0_2 a0_3 a0_4) else (carouselref1_Held.j0 k true a0_0 a0_1 a0_2 a0_3 a0_4)) = some r := h
  clear h
  have HC2 := Aside0.mk H
  clear H
  go_enter Try.func33, Try.ntmps33
  go_upto_region 1 with (first | ((with_reducible refine gate_dst (N := 1) rfl ?_); refine box_event ?hg (N := 1) ?hd (cs := #[.bool a0_0, .int .u64 a0_1, .int .u64 a0_2, .int .u64 a0_3, .int .u64 a0_4]) (t := 51) ?hr ?_; (case hd => rfl); (case hg => rfl); (case hr => first | (go_simp; done) | (go_simp; rfl)); intro gb131 hg w3 hbox hb; have n0_ := Aside0.mk (below_step (by repeat (first | (with_reducible first | exact HB.out | apply below_alloc | apply pw_below_drewN | apply below_drew1) | exact HB.out)) hb); have n1_ := Aside0.mk (hbox); have n2_ := Aside0.mk ((by rw [hg]; exact (below_size (by repeat (first | (with_reducible first | exact HB.out | apply below_alloc | apply pw_below_drewN | apply below_drew1) | exact HB.out))) : w.heap.size ≤ gb131)); have n3_ := Aside0.mk ((by rw [hg]; exact (below_size (by repeat (first | (with_reducible first | exact HB.out | apply below_alloc | apply pw_below_drewN | apply below_drew1) | exact HB.out))) : w.heap.size ≤ gb131)); clear HB; have HB := n0_; have BK131 := n1_; have GW131 := n2_; have GE131 := n3_; clear n0_ n1_ n2_ n3_; clear hb hbox hg))
  (try simp only [Act.put, List.setIfInBounds_toArray, List.set_cons_zero, List.set_cons_succ])
  go_cut [20] (fun v20 wc => ∃ (kq : Nat) (x20_1 : Bool), v20 = .bool x20_1 ∧ Aside0 (carouselref1_Held.j0 kq x20_1 a0_0 a0_1 a0_2 a0_3 a0_4 = some r) ∧ Aside0 (kq ≤ k) ∧ Aside0 (wc.heap[gb131]? = some (.cells #[.bool a0_0, .int .u64 a0_1, .int .u64 a0_2, .int .u64 a0_3, .int .u64 a0_4] 51 (0, 0))) ∧ Aside0 (Below w.heap.size w wc))
  case first =>
    have H := HC2.out
    clear HC2
    by_cases c4 : (Go.bits .or .u64 (Go.bits .or .u64 a0_2 a0_3) a0_4) = 0
    · rw [if_pos c4] at H
      have c4b0 : ((Go.bits .or .u64 (Go.bits .or .u64 a0_2 a0_3) a0_4) == 0) = true := beq_iff_eq.mpr c4
      have c4b1 : ((Go.bits .or .u64 (Go.bits .or .u64 a0_2 a0_3) a0_4) != 0) = false := bne_eq_false_iff_eq.mpr c4
      clear c4
      (first | rw [c4b0] | (simp only [i64_w, i32_w]; rw [c4b0]) | skip)
      have H' := Aside0.mk H
      clear H
      have hcz5_0 : w3.cell? ⟨gb131, 0, none⟩ = some (.bool a0_0) := (blk_cell BK131.out 0).trans rfl
      have hcz5_1 : w3.cell? ⟨gb131, 1, none⟩ = some (.int .u64 a0_1) := (blk_cell BK131.out 1).trans rfl
      have hcz5_2 : w3.cell? ⟨gb131, 2, none⟩ = some (.int .u64 a0_2) := (blk_cell BK131.out 2).trans rfl
      have hcz5_3 : w3.cell? ⟨gb131, 3, none⟩ = some (.int .u64 a0_3) := (blk_cell BK131.out 3).trans rfl
      have hcz5_4 : w3.cell? ⟨gb131, 4, none⟩ = some (.int .u64 a0_4) := (blk_cell BK131.out 4).trans rfl
      have hfz5_0 := blk_frozen BK131.out 0
      have hfz5_1 := blk_frozen BK131.out 1
      have hfz5_2 := blk_frozen BK131.out 2
      have hfz5_3 := blk_frozen BK131.out 3
      have hfz5_4 := blk_frozen BK131.out 4
      go_wp2
      go_meet
      case rel => exact ⟨_, (decide (a0_1 ≥ 9223372036854775808)), (by first | rfl | (simp; done) | (simp [*]; done)), H', ⟨by first | omega | exact Nat.le_refl _⟩, ⟨by (with_reducible repeat (first | refine blk_drewN ?_ _ | refine blk_drew ?_ | refine blk_alloc ?_ _)); exact BK131.out⟩, ⟨by repeat (first | (with_reducible first | exact HB.out | apply below_alloc | apply pw_below_drewN | apply below_drew1 | refine below_set ?_ GE131.out) | exact HB.out)⟩⟩
    · rw [if_neg c4] at H
      have c4b0 : ((Go.bits .or .u64 (Go.bits .or .u64 a0_2 a0_3) a0_4) == 0) = false := beq_eq_false_iff_ne.mpr c4
      have c4b1 : ((Go.bits .or .u64 (Go.bits .or .u64 a0_2 a0_3) a0_4) != 0) = true := bne_iff_ne.mpr c4
      (first | rw [c4b0] | (simp only [i64_w, i32_w]; rw [c4b0]) | skip)
      have H' := Aside0.mk H
      clear H
      have hcz6_0 : w3.cell? ⟨gb131, 0, none⟩ = some (.bool a0_0) := (blk_cell BK131.out 0).trans rfl
      have hcz6_1 : w3.cell? ⟨gb131, 1, none⟩ = some (.int .u64 a0_1) := (blk_cell BK131.out 1).trans rfl
      have hcz6_2 : w3.cell? ⟨gb131, 2, none⟩ = some (.int .u64 a0_2) := (blk_cell BK131.out 2).trans rfl
      have hcz6_3 : w3.cell? ⟨gb131, 3, none⟩ = some (.int .u64 a0_3) := (blk_cell BK131.out 3).trans rfl
      have hcz6_4 : w3.cell? ⟨gb131, 4, none⟩ = some (.int .u64 a0_4) := (blk_cell BK131.out 4).trans rfl
      have hfz6_0 := blk_frozen BK131.out 0
      have hfz6_1 := blk_frozen BK131.out 1
      have hfz6_2 := blk_frozen BK131.out 2
      have hfz6_3 := blk_frozen BK131.out 3
      have hfz6_4 := blk_frozen BK131.out 4
      go_wp2
      go_meet
      case rel => exact ⟨_, (true), (by first | rfl | (simp; done) | (simp [*]; done)), H', ⟨by first | omega | exact Nat.le_refl _⟩, ⟨by (with_reducible repeat (first | refine blk_drewN ?_ _ | refine blk_drew ?_ | refine blk_alloc ?_ _)); exact BK131.out⟩, ⟨by repeat (first | (with_reducible first | exact HB.out | apply below_alloc | apply pw_below_drewN | apply below_drew1 | refine below_set ?_ GE131.out) | exact HB.out)⟩⟩
  case rest =>
    clear HC2
    try clear p2
    try clear c3
    try clear c4
    try clear c4b0
    try clear c4b1
    try clear hcz5_0
    try clear hcz5_1
    try clear hcz5_2
    try clear hcz5_3
    try clear hcz5_4
    try clear hcz6_0
    try clear hcz6_1
    try clear hcz6_2
    try clear hcz6_3
    try clear hcz6_4
    try clear hfz5_0
    try clear hfz5_1
    try clear hfz5_2
    try clear hfz5_3
    try clear hfz5_4
    try clear hfz6_0
    try clear hfz6_1
    try clear hfz6_2
    try clear hfz6_3
    try clear hfz6_4
    obtain ⟨kq, x20_1, rfl, HA, HJ1, BK131, HB⟩ := hcut
    cases kq with
    | zero => exact absurd HA.out (by simp [carouselref1_Held.j0])
    | succ kj1 =>
      have H := HA.out
      clear HA
      simp only [carouselref1_Held.j0] at H
      by_cases c7 : x20_1 = true
      · subst c7
        have H1 : (if a0_0 = true then (some (-9223372036854775808)) else (some 9223372036854775807)) = some r := by rw [if_pos rfl] at H; exact H
        clear H
        have H := H1
        clear H1
        by_cases c8 : a0_0 = true
        · subst c8
          have H1 : (some (-9223372036854775808)) = some r := by rw [if_pos rfl] at H; exact H
          clear H
          have H := H1
          clear H1
          obtain rfl := Option.some.inj H
          have hcz9_0 : wc.cell? ⟨gb131, 0, none⟩ = some (.bool true) := (blk_cell BK131.out 0).trans rfl
          have hcz9_1 : wc.cell? ⟨gb131, 1, none⟩ = some (.int .u64 a0_1) := (blk_cell BK131.out 1).trans rfl
          have hcz9_2 : wc.cell? ⟨gb131, 2, none⟩ = some (.int .u64 a0_2) := (blk_cell BK131.out 2).trans rfl
          have hcz9_3 : wc.cell? ⟨gb131, 3, none⟩ = some (.int .u64 a0_3) := (blk_cell BK131.out 3).trans rfl
          have hcz9_4 : wc.cell? ⟨gb131, 4, none⟩ = some (.int .u64 a0_4) := (blk_cell BK131.out 4).trans rfl
          have hfz9_0 := blk_frozen BK131.out 0
          have hfz9_1 := blk_frozen BK131.out 1
          have hfz9_2 := blk_frozen BK131.out 2
          have hfz9_3 := blk_frozen BK131.out 3
          have hfz9_4 := blk_frozen BK131.out 4
          go_wp2
          go_ret
          exact ⟨by first | rfl | (simp [errW_none, errW_some] <;> rfl) | (simp [*, errW_none, errW_some] <;> rfl), by repeat (first | (with_reducible first | exact HB.out | apply below_alloc | apply pw_below_drewN | apply below_drew1 | refine below_set ?_ GE131.out) | exact HB.out)⟩
        · replace c8 := Bool.eq_false_iff.mpr c8
          subst c8
          have H1 : (some 9223372036854775807) = some r := by rw [if_neg (show ¬ (false = true) by decide)] at H; exact H
          clear H
          have H := H1
          clear H1
          obtain rfl := Option.some.inj H
          have hcz10_0 : wc.cell? ⟨gb131, 0, none⟩ = some (.bool false) := (blk_cell BK131.out 0).trans rfl
          have hcz10_1 : wc.cell? ⟨gb131, 1, none⟩ = some (.int .u64 a0_1) := (blk_cell BK131.out 1).trans rfl
          have hcz10_2 : wc.cell? ⟨gb131, 2, none⟩ = some (.int .u64 a0_2) := (blk_cell BK131.out 2).trans rfl
          have hcz10_3 : wc.cell? ⟨gb131, 3, none⟩ = some (.int .u64 a0_3) := (blk_cell BK131.out 3).trans rfl
          have hcz10_4 : wc.cell? ⟨gb131, 4, none⟩ = some (.int .u64 a0_4) := (blk_cell BK131.out 4).trans rfl
          have hfz10_0 := blk_frozen BK131.out 0
          have hfz10_1 := blk_frozen BK131.out 1
          have hfz10_2 := blk_frozen BK131.out 2
          have hfz10_3 := blk_frozen BK131.out 3
          have hfz10_4 := blk_frozen BK131.out 4
          go_wp2
          go_ret
          exact ⟨by first | rfl | (simp [errW_none, errW_some] <;> rfl) | (simp [*, errW_none, errW_some] <;> rfl), by repeat (first | (with_reducible first | exact HB.out | apply below_alloc | apply pw_below_drewN | apply below_drew1 | refine below_set ?_ GE131.out) | exact HB.out)⟩
      · replace c7 := Bool.eq_false_iff.mpr c7
        subst c7
        have H1 : (if a0_0 = true then (some (wrap64 (-(wrap64 (a0_1))))) else (some (wrap64 (a0_1)))) = some r := by rw [if_neg (show ¬ (false = true) by decide)] at H; exact H
        clear H
        have H := H1
        clear H1
        by_cases c11 : a0_0 = true
        · subst c11
          have H1 : (some (wrap64 (-(wrap64 (a0_1))))) = some r := by rw [if_pos rfl] at H; exact H
          clear H
          have H := H1
          clear H1
          obtain rfl := Option.some.inj H
          have hcz12_0 : wc.cell? ⟨gb131, 0, none⟩ = some (.bool true) := (blk_cell BK131.out 0).trans rfl
          have hcz12_1 : wc.cell? ⟨gb131, 1, none⟩ = some (.int .u64 a0_1) := (blk_cell BK131.out 1).trans rfl
          have hcz12_2 : wc.cell? ⟨gb131, 2, none⟩ = some (.int .u64 a0_2) := (blk_cell BK131.out 2).trans rfl
          have hcz12_3 : wc.cell? ⟨gb131, 3, none⟩ = some (.int .u64 a0_3) := (blk_cell BK131.out 3).trans rfl
          have hcz12_4 : wc.cell? ⟨gb131, 4, none⟩ = some (.int .u64 a0_4) := (blk_cell BK131.out 4).trans rfl
          have hfz12_0 := blk_frozen BK131.out 0
          have hfz12_1 := blk_frozen BK131.out 1
          have hfz12_2 := blk_frozen BK131.out 2
          have hfz12_3 := blk_frozen BK131.out 3
          have hfz12_4 := blk_frozen BK131.out 4
          go_wp2
          go_ret
          exact ⟨by first | rfl | (simp [errW_none, errW_some] <;> rfl) | (simp [*, errW_none, errW_some] <;> rfl), by repeat (first | (with_reducible first | exact HB.out | apply below_alloc | apply pw_below_drewN | apply below_drew1 | refine below_set ?_ GE131.out) | exact HB.out)⟩
        · replace c11 := Bool.eq_false_iff.mpr c11
          subst c11
          have H1 : (some (wrap64 (a0_1))) = some r := by rw [if_neg (show ¬ (false = true) by decide)] at H; exact H
          clear H
          have H := H1
          clear H1
          obtain rfl := Option.some.inj H
          have hcz13_0 : wc.cell? ⟨gb131, 0, none⟩ = some (.bool false) := (blk_cell BK131.out 0).trans rfl
          have hcz13_1 : wc.cell? ⟨gb131, 1, none⟩ = some (.int .u64 a0_1) := (blk_cell BK131.out 1).trans rfl
          have hcz13_2 : wc.cell? ⟨gb131, 2, none⟩ = some (.int .u64 a0_2) := (blk_cell BK131.out 2).trans rfl
          have hcz13_3 : wc.cell? ⟨gb131, 3, none⟩ = some (.int .u64 a0_3) := (blk_cell BK131.out 3).trans rfl
          have hcz13_4 : wc.cell? ⟨gb131, 4, none⟩ = some (.int .u64 a0_4) := (blk_cell BK131.out 4).trans rfl
          have hfz13_0 := blk_frozen BK131.out 0
          have hfz13_1 := blk_frozen BK131.out 1
          have hfz13_2 := blk_frozen BK131.out 2
          have hfz13_3 := blk_frozen BK131.out 3
          have hfz13_4 := blk_frozen BK131.out 4
          go_wp2
          go_ret
          exact ⟨by first | rfl | (simp [errW_none, errW_some] <;> rfl) | (simp [*, errW_none, errW_some] <;> rfl), by repeat (first | (with_reducible first | exact HB.out | apply below_alloc | apply pw_below_drewN | apply below_drew1 | refine below_set ?_ GE131.out) | exact HB.out)⟩

/-! ### carouselref1_byNought: function 48 -/
def carouselref1_byNought.f (a0 : Bool) (a1 : Bool) : Option (Int) := if a1 = true then (some 0) else (if a0 = true then (some (-9223372036854775808)) else (some 9223372036854775807))
set_option maxHeartbeats 8000000 in
set_option maxRecDepth 100000 in
theorem carouselref1_byNought.calls (a0 : Bool) (a1 : Bool) (r : Int) (w : World) (h : carouselref1_byNought.f a0 a1 = some r) :
    Calls Try.prog 48 #[.bool a0, .bool a1] w fun e w' => e = .returned (.int .i64 r) ∧ Drawn0 w w' := by
  have H : (if a1 = true then (some 0) else (if a0 = true then (some (-9223372036854775808)) else (some 9223372036854775807))) = some r := h
  clear h
  by_cases c3 : a1 = true
  · subst c3
    have H1 : (some 0) = some r := by rw [if_pos rfl] at H; exact H
    clear H
    have H := H1
    clear H1
    obtain rfl := Option.some.inj H
    go_enter Try.func48, Try.ntmps48
    go_wp2
    go_ret
    exact ⟨by first | rfl | (simp; done) | (simp [*]; done), by repeat (first | exact Drawn0.refl _ | apply Drawn0.step)⟩
  · replace c3 := Bool.eq_false_iff.mpr c3
    subst c3
    have H1 : (if a0 = true then (some (-9223372036854775808)) else (some 9223372036854775807)) = some r := by rw [if_neg (show ¬ (false = true) by decide)] at H; exact H
    clear H
    have H := H1
    clear H1
    by_cases c4 : a0 = true
    · subst c4
      have H1 : (some (-9223372036854775808)) = some r := by rw [if_pos rfl] at H; exact H
      clear H
      have H := H1
      clear H1
      obtain rfl := Option.some.inj H
      go_enter Try.func48, Try.ntmps48
      go_wp2
      go_ret
      exact ⟨by first | rfl | (simp; done) | (simp [*]; done), by repeat (first | exact Drawn0.refl _ | apply Drawn0.step)⟩
    · replace c4 := Bool.eq_false_iff.mpr c4
      subst c4
      have H1 : (some 9223372036854775807) = some r := by rw [if_neg (show ¬ (false = true) by decide)] at H; exact H
      clear H
      have H := H1
      clear H1
      obtain rfl := Option.some.inj H
      go_enter Try.func48, Try.ntmps48
      go_wp2
      go_ret
      exact ⟨by first | rfl | (simp; done) | (simp [*]; done), by repeat (first | exact Drawn0.refl _ | apply Drawn0.step)⟩

/-! ### carouselref1_bit: function 54 -/
def carouselref1_bit.w (a0 a1 a2 a3 j : Int) : Int := if j = 0 then a0 else if j = 1 then a1 else if j = 2 then a2 else a3
def carouselref1_bit.f (a0_0 : Int) (a0_1 : Int) (a0_2 : Int) (a0_3 : Int) (a1 : Int) : Option (Int) := if 0 ≤ a1 ∧ a1 < 256 then some (Go.bits .and .u64 (carouselref1_bit.w a0_0 a0_1 a0_2 a0_3 (a1 / 64) / 2 ^ (a1 % 64).toNat) 1) else none
set_option maxHeartbeats 8000000 in
set_option maxRecDepth 100000 in
theorem carouselref1_bit.calls (a0_0 : Int) (a0_1 : Int) (a0_2 : Int) (a0_3 : Int) (a1 : Int) (r : Int) (w : World) (h : carouselref1_bit.f a0_0 a0_1 a0_2 a0_3 a1 = some r) :
    Calls Try.prog 54 #[.agg #[.int .u64 a0_0, .int .u64 a0_1, .int .u64 a0_2, .int .u64 a0_3], .int .i64 a1] w fun e w' => e = .returned (.int .u64 r) ∧ Below w.heap.size w w' := by
  unfold carouselref1_bit.f at h
  by_cases hc : 0 ≤ a1 ∧ a1 < 256
  case neg => rw [if_neg hc] at h; cases h
  rw [if_pos hc] at h
  have H := Aside0.mk (Option.some.inj h)
  clear h
  have HB := Aside0.mk (Below.refl w.heap.size w)
  have hu49 := Try.underlying49
  obtain ⟨s, hs⟩ : ∃ s, s = a1 % 64 := ⟨_, rfl⟩
  have h0 : 0 ≤ s := by omega
  have h1 : s < 64 := by omega
  have e2 : a1.tmod 64 = s := by rw [Int.tmod_eq_emod_of_nonneg (by omega)]; omega
  rw [← hs] at H
  by_cases c0 : a1 / 64 = 0
  case pos =>
    have e1 : a1.tdiv 64 = 0 := by rw [Int.tdiv_eq_ediv_of_nonneg (by omega)]; omega
    have H2 := H.out
    rw [c0] at H2
    have H3 := Aside0.mk H2
    clear H2 H hc hs
    clear c0
    go_enter Try.func54, Try.ntmps54
    go_wp2
    go_ret
    refine ⟨?_, by repeat (first | (with_reducible first | exact HB.out | apply below_alloc | apply pw_below_drewN | apply below_drew1) | exact HB.out)⟩
    rw [← H3.out]
    rfl
  case neg =>
    by_cases c1 : a1 / 64 = 1
    case pos =>
      have e1 : a1.tdiv 64 = 1 := by rw [Int.tdiv_eq_ediv_of_nonneg (by omega)]; omega
      have H2 := H.out
      rw [c1] at H2
      have H3 := Aside0.mk H2
      clear H2 H hc hs
      clear c0 c1
      go_enter Try.func54, Try.ntmps54
      go_wp2
      go_ret
      refine ⟨?_, by repeat (first | (with_reducible first | exact HB.out | apply below_alloc | apply pw_below_drewN | apply below_drew1) | exact HB.out)⟩
      rw [← H3.out]
      rfl
    case neg =>
      by_cases c2 : a1 / 64 = 2
      case pos =>
        have e1 : a1.tdiv 64 = 2 := by rw [Int.tdiv_eq_ediv_of_nonneg (by omega)]; omega
        have H2 := H.out
        rw [c2] at H2
        have H3 := Aside0.mk H2
        clear H2 H hc hs
        clear c0 c1 c2
        go_enter Try.func54, Try.ntmps54
        go_wp2
        go_ret
        refine ⟨?_, by repeat (first | (with_reducible first | exact HB.out | apply below_alloc | apply pw_below_drewN | apply below_drew1) | exact HB.out)⟩
        rw [← H3.out]
        rfl
      case neg =>
        have c3 : a1 / 64 = 3 := by omega
        have e1 : a1.tdiv 64 = 3 := by rw [Int.tdiv_eq_ediv_of_nonneg (by omega)]; omega
        have H2 := H.out
        rw [c3] at H2
        have H3 := Aside0.mk H2
        clear H2 H hc hs
        clear c0 c1 c2 c3
        go_enter Try.func54, Try.ntmps54
        go_wp2
        go_ret
        refine ⟨?_, by repeat (first | (with_reducible first | exact HB.out | apply below_alloc | apply pw_below_drewN | apply below_drew1) | exact HB.out)⟩
        rw [← H3.out]
        rfl

/-! ### carouselref1_plus: function 55 -/
/-! ### words for arrays of four cells that lie in memory -/
theorem set_last_ (W : World) (cs : Array Value) (t : TypeId) (n off B : Nat) (v : Value) (hB : B = W.heap.size) : ((W.alloc (.cells cs t)).drewN n).setCell ⟨B, off, none⟩ v = (W.alloc (.cells (cs.setIfInBounds off v) t)).drewN n := by
  subst hB
  unfold World.alloc World.drewN World.setCell
  simp only [World.mk.injEq, and_true]
  apply Array.ext
  · simp
  · intro i h1 h2
    simp at h1 h2
    by_cases c : i = W.heap.size
    · subst c
      simp [Array.getElem_modify, Array.getElem_push]
    · have h3 : i < W.heap.size := by omega
      simp [Array.getElem_modify, Array.getElem_push, Ne.symm c, h3]
theorem set_last3_ (w : World) (o1 o2 o3 : Obj) (cs : Array Value) (t : TypeId) (n off : Nat) (v : Value) : (((((w.alloc o1).alloc o2).alloc o3).alloc (.cells cs t)).drewN n).setCell ⟨w.heap.size + 1 + 1 + 1, off, none⟩ v = ((((w.alloc o1).alloc o2).alloc o3).alloc (.cells (cs.setIfInBounds off v) t)).drewN n :=
  set_last_ _ cs t n off _ v (by simp only [World.alloc, Array.size_push])
theorem set_last4_ (w : World) (o1 o2 o3 : Obj) (cs : Array Value) (t : TypeId) (n m off : Nat) (v : Value) : ((((((w.alloc o1).alloc o2).alloc o3).alloc (.cells cs t)).drewN n).setCell ⟨w.heap.size + 1 + 1 + 1, off, none⟩ v).drewN m = ((((w.alloc o1).alloc o2).alloc o3).alloc (.cells (cs.setIfInBounds off v) t)).drewN (n + m) := by
  rw [set_last3_]
  simp only [World.drewN, Nat.add_assoc]
theorem end4_ (w : World) (o1 o2 o4 : Obj) (t : TypeId) (n : Nat) (z0 z1 z2 z3 v0 v1 v2 v3 : Value) :
    ((((((((((w.alloc o1).alloc o2).alloc (.cells #[z0, z1, z2, z3] t)).alloc o4).drewN n).setCell ⟨w.heap.size + 1 + 1, 0, none⟩ v0).setCell ⟨w.heap.size + 1 + 1, 1, none⟩ v1).setCell ⟨w.heap.size + 1 + 1, 2, none⟩ v2).setCell ⟨w.heap.size + 1 + 1, 3, none⟩ v3).heap[w.heap.size + 1 + 1]? = some (.cells #[v0, v1, v2, v3] t (0, 0))) ∧
    Below w.heap.size w (((((((((w.alloc o1).alloc o2).alloc (.cells #[z0, z1, z2, z3] t)).alloc o4).drewN n).setCell ⟨w.heap.size + 1 + 1, 0, none⟩ v0).setCell ⟨w.heap.size + 1 + 1, 1, none⟩ v1).setCell ⟨w.heap.size + 1 + 1, 2, none⟩ v2).setCell ⟨w.heap.size + 1 + 1, 3, none⟩ v3) := by
  have s2 : ((w.alloc o1).alloc o2).heap.size = w.heap.size + 1 + 1 := by simp only [World.alloc, Array.size_push]
  have s3 : (((w.alloc o1).alloc o2).alloc (.cells #[z0, z1, z2, z3] t)).heap.size = w.heap.size + 1 + 1 + 1 := by simp only [World.alloc, Array.size_push]
  have b := blk_new ((w.alloc o1).alloc o2) (.cells #[z0, z1, z2, z3] t (0, 0))
  rw [s2] at b
  constructor
  · exact blk_put (cs := #[v0, v1, v2, z3]) (blk_put (cs := #[v0, v1, z2, z3]) (blk_put (cs := #[v0, z1, z2, z3]) (blk_put (cs := #[z0, z1, z2, z3]) (blk_drewN (blk_alloc b _) _) 0 _ rfl) 1 _ rfl) 2 _ rfl) 3 _ rfl
  · have h1 := (Below.refl w.heap.size w).alloc (Nat.le_refl _) o1
    have h2 := h1.alloc (by simp only [World.alloc, Array.size_push]; omega) o2
    have h3 := h2.alloc (by rw [s2]; omega) (.cells #[z0, z1, z2, z3] t (0, 0))
    have h4 := h3.alloc (by rw [s3]; omega) o4
    have h5 : Below w.heap.size w (((((w.alloc o1).alloc o2).alloc (.cells #[z0, z1, z2, z3] t (0, 0))).alloc o4).drewN n) := ⟨h4.os, h4.tape, h4.output, h4.size, h4.block⟩
    exact (((h5.setCell (by show w.heap.size ≤ w.heap.size + 1 + 1; omega) _).setCell (by show w.heap.size ≤ w.heap.size + 1 + 1; omega) _).setCell (by show w.heap.size ≤ w.heap.size + 1 + 1; omega) _).setCell (by show w.heap.size ≤ w.heap.size + 1 + 1; omega) _
def carouselref1_plus.s (a b c : Int) : Int := IntKind.u64.wrap (IntKind.u64.wrap (a + b) + c)
def carouselref1_plus.c (a b c : Int) : Int := if IntKind.u64.wrap (a + b) < a then 1 else if carouselref1_plus.s a b c < IntKind.u64.wrap (a + b) then 1 else 0
theorem carouselref1_plus.s_z (a b : Int) : IntKind.u64.wrap (IntKind.u64.wrap (a + b)) = carouselref1_plus.s a b 0 := by unfold carouselref1_plus.s; rw [Int.add_zero]
theorem carouselref1_plus.c_pos (a b c : Int) (h : IntKind.u64.wrap (a + b) < a) : 1 = carouselref1_plus.c a b c := by unfold carouselref1_plus.c; rw [if_pos h]
theorem carouselref1_plus.c_mid (a b c : Int) (h1 : a ≤ IntKind.u64.wrap (a + b)) (h : IntKind.u64.wrap (a + b) < a ∨ IntKind.u64.wrap (IntKind.u64.wrap (a + b) + c) < IntKind.u64.wrap (a + b)) : 1 = carouselref1_plus.c a b c := by
  unfold carouselref1_plus.c carouselref1_plus.s; rw [if_neg (by omega), if_pos (by omega)]
theorem carouselref1_plus.c_neg (a b c : Int) (h1 : a ≤ IntKind.u64.wrap (a + b)) (h2 : a ≤ IntKind.u64.wrap (a + b) ∧ IntKind.u64.wrap (a + b) ≤ IntKind.u64.wrap (IntKind.u64.wrap (a + b) + c)) : 0 = carouselref1_plus.c a b c := by unfold carouselref1_plus.c carouselref1_plus.s; rw [if_neg (by omega), if_neg (by omega)]
theorem carouselref1_plus.c_posz (a b : Int) (h : IntKind.u64.wrap (a + b) < a) : 1 = carouselref1_plus.c a b 0 := carouselref1_plus.c_pos a b 0 h
theorem carouselref1_plus.c_midz (a b : Int) (h1 : a ≤ IntKind.u64.wrap (a + b)) (h : IntKind.u64.wrap (a + b) < a ∨ IntKind.u64.wrap (IntKind.u64.wrap (a + b)) < IntKind.u64.wrap (a + b)) : 1 = carouselref1_plus.c a b 0 := carouselref1_plus.c_mid a b 0 h1 (by rw [Int.add_zero]; exact h)
theorem carouselref1_plus.c_negz (a b : Int) (h1 : a ≤ IntKind.u64.wrap (a + b)) (h2 : a ≤ IntKind.u64.wrap (a + b) ∧ IntKind.u64.wrap (a + b) ≤ IntKind.u64.wrap (IntKind.u64.wrap (a + b))) : 0 = carouselref1_plus.c a b 0 := carouselref1_plus.c_neg a b 0 h1 (by rw [Int.add_zero]; exact h2)
def carouselref1_plus.f (a0_0 : Int) (a0_1 : Int) (a0_2 : Int) (a0_3 : Int) (a1_0 : Int) (a1_1 : Int) (a1_2 : Int) (a1_3 : Int) : Option (Int × Int × Int × Int) := some (carouselref1_plus.s a0_0 a1_0 0, carouselref1_plus.s a0_1 a1_1 (carouselref1_plus.c a0_0 a1_0 0), carouselref1_plus.s a0_2 a1_2 (carouselref1_plus.c a0_1 a1_1 (carouselref1_plus.c a0_0 a1_0 0)), carouselref1_plus.s a0_3 a1_3 (carouselref1_plus.c a0_2 a1_2 (carouselref1_plus.c a0_1 a1_1 (carouselref1_plus.c a0_0 a1_0 0))))
set_option maxHeartbeats 8000000 in
set_option maxRecDepth 100000 in
theorem carouselref1_plus.calls (a0_0 : Int) (a0_1 : Int) (a0_2 : Int) (a0_3 : Int) (a1_0 : Int) (a1_1 : Int) (a1_2 : Int) (a1_3 : Int) (r1 : Int) (r2 : Int) (r3 : Int) (r4 : Int) (w : World) (h : carouselref1_plus.f a0_0 a0_1 a0_2 a0_3 a1_0 a1_1 a1_2 a1_3 = some (r1, r2, r3, r4)) :
    Calls Try.prog 55 #[.agg #[.int .u64 a0_0, .int .u64 a0_1, .int .u64 a0_2, .int .u64 a0_3], .agg #[.int .u64 a1_0, .int .u64 a1_1, .int .u64 a1_2, .int .u64 a1_3]] w fun e w' => e = .returned (.agg #[.int .u64 r1, .int .u64 r2, .int .u64 r3, .int .u64 r4]) ∧ Below w.heap.size w w' := by
  unfold carouselref1_plus.f at h
  have H0 := Aside0.mk h
  clear h
  have hu49 := Try.underlying49
  go_enter Try.func55, Try.ntmps55
  go_wp2
  refine wp_loop_rounds 5 ?_
  rw [rounds_succ]
  go_upto_block 1 with (fail)
  go_cut [6] (fun v6 wc => ∃ (n : Nat) (k0 t0 : Int), v6 = .int .u64 k0 ∧ Aside0 (k0 = carouselref1_plus.c a0_0 a1_0 0) ∧ Aside0 (t0 = carouselref1_plus.s a0_0 a1_0 0) ∧ wc = (((((w.alloc (.cells #[.int .u64 a0_0, .int .u64 a0_1, .int .u64 a0_2, .int .u64 a0_3] 49)).alloc (.cells #[.int .u64 a1_0, .int .u64 a1_1, .int .u64 a1_2, .int .u64 a1_3] 49)).alloc (.cells #[.int .u64 0, .int .u64 0, .int .u64 0, .int .u64 0] 49)).alloc (.cells #[.int .u64 t0, .int .u64 0, .int .u64 0, .int .u64 0] 49))).drewN n)
  case first =>
    go_wp2
    go_quiet (fail)
    go_wp2
    all_goals go_meet
    all_goals first | exact ⟨_, _, _, rfl, ⟨carouselref1_plus.c_posz a0_0 a1_0 (by assumption)⟩, ⟨carouselref1_plus.s_z a0_0 a1_0⟩, set_last3_ _ _ _ _ _ _ _ _ _⟩ | exact ⟨_, _, _, rfl, ⟨carouselref1_plus.c_midz a0_0 a1_0 (by assumption) (by assumption)⟩, ⟨carouselref1_plus.s_z a0_0 a1_0⟩, set_last3_ _ _ _ _ _ _ _ _ _⟩ | exact ⟨_, _, _, rfl, ⟨carouselref1_plus.c_negz a0_0 a1_0 (by assumption) (by assumption)⟩, ⟨carouselref1_plus.s_z a0_0 a1_0⟩, set_last3_ _ _ _ _ _ _ _ _ _⟩
  case rest =>
    obtain ⟨n0, k0, t0, rfl, K0, T0, rfl⟩ := hcut
    go_wp2
    rw [rounds_succ]
    go_upto_block 1 with (fail)
    go_cut [6] (fun v6 wc => ∃ (n : Nat) (k1 t1 : Int), v6 = .int .u64 k1 ∧ Aside0 (k1 = carouselref1_plus.c a0_1 a1_1 k0) ∧ Aside0 (t1 = carouselref1_plus.s a0_1 a1_1 k0) ∧ wc = (((((w.alloc (.cells #[.int .u64 a0_0, .int .u64 a0_1, .int .u64 a0_2, .int .u64 a0_3] 49)).alloc (.cells #[.int .u64 a1_0, .int .u64 a1_1, .int .u64 a1_2, .int .u64 a1_3] 49)).alloc (.cells #[.int .u64 0, .int .u64 0, .int .u64 0, .int .u64 0] 49)).alloc (.cells #[.int .u64 t0, .int .u64 t1, .int .u64 0, .int .u64 0] 49))).drewN n)
    case first =>
      go_wp2
      go_quiet (fail)
      go_wp2
      all_goals go_meet
      all_goals first | exact ⟨_, _, _, rfl, ⟨carouselref1_plus.c_pos a0_1 a1_1 k0 (by assumption)⟩, ⟨rfl⟩, set_last3_ _ _ _ _ _ _ _ _ _⟩ | exact ⟨_, _, _, rfl, ⟨carouselref1_plus.c_mid a0_1 a1_1 k0 (by assumption) (by assumption)⟩, ⟨rfl⟩, set_last3_ _ _ _ _ _ _ _ _ _⟩ | exact ⟨_, _, _, rfl, ⟨carouselref1_plus.c_neg a0_1 a1_1 k0 (by assumption) (by assumption)⟩, ⟨rfl⟩, set_last3_ _ _ _ _ _ _ _ _ _⟩
    case rest =>
      obtain ⟨n1, k1, t1, rfl, K1, T1, rfl⟩ := hcut
      go_wp2
      rw [rounds_succ]
      go_upto_block 1 with (fail)
      go_cut [6] (fun v6 wc => ∃ (n : Nat) (k2 t2 : Int), v6 = .int .u64 k2 ∧ Aside0 (k2 = carouselref1_plus.c a0_2 a1_2 k1) ∧ Aside0 (t2 = carouselref1_plus.s a0_2 a1_2 k1) ∧ wc = (((((w.alloc (.cells #[.int .u64 a0_0, .int .u64 a0_1, .int .u64 a0_2, .int .u64 a0_3] 49)).alloc (.cells #[.int .u64 a1_0, .int .u64 a1_1, .int .u64 a1_2, .int .u64 a1_3] 49)).alloc (.cells #[.int .u64 0, .int .u64 0, .int .u64 0, .int .u64 0] 49)).alloc (.cells #[.int .u64 t0, .int .u64 t1, .int .u64 t2, .int .u64 0] 49))).drewN n)
      case first =>
        go_wp2
        go_quiet (fail)
        go_wp2
        all_goals go_meet
        all_goals first | exact ⟨_, _, _, rfl, ⟨carouselref1_plus.c_pos a0_2 a1_2 k1 (by assumption)⟩, ⟨rfl⟩, set_last3_ _ _ _ _ _ _ _ _ _⟩ | exact ⟨_, _, _, rfl, ⟨carouselref1_plus.c_mid a0_2 a1_2 k1 (by assumption) (by assumption)⟩, ⟨rfl⟩, set_last3_ _ _ _ _ _ _ _ _ _⟩ | exact ⟨_, _, _, rfl, ⟨carouselref1_plus.c_neg a0_2 a1_2 k1 (by assumption) (by assumption)⟩, ⟨rfl⟩, set_last3_ _ _ _ _ _ _ _ _ _⟩
      case rest =>
        obtain ⟨n2, k2, t2, rfl, K2, T2, rfl⟩ := hcut
        go_wp2
        rw [rounds_succ]
        go_upto_block 1 with (fail)
        go_cut [6] (fun v6 wc => ∃ (n : Nat) (k3 t3 : Int), v6 = .int .u64 k3 ∧ Aside0 (k3 = carouselref1_plus.c a0_3 a1_3 k2) ∧ Aside0 (t3 = carouselref1_plus.s a0_3 a1_3 k2) ∧ wc = (((((w.alloc (.cells #[.int .u64 a0_0, .int .u64 a0_1, .int .u64 a0_2, .int .u64 a0_3] 49)).alloc (.cells #[.int .u64 a1_0, .int .u64 a1_1, .int .u64 a1_2, .int .u64 a1_3] 49)).alloc (.cells #[.int .u64 0, .int .u64 0, .int .u64 0, .int .u64 0] 49)).alloc (.cells #[.int .u64 t0, .int .u64 t1, .int .u64 t2, .int .u64 t3] 49))).drewN n)
        case first =>
          go_wp2
          go_quiet (fail)
          go_wp2
          all_goals go_meet
          all_goals first | exact ⟨_, _, _, rfl, ⟨carouselref1_plus.c_pos a0_3 a1_3 k2 (by assumption)⟩, ⟨rfl⟩, set_last3_ _ _ _ _ _ _ _ _ _⟩ | exact ⟨_, _, _, rfl, ⟨carouselref1_plus.c_mid a0_3 a1_3 k2 (by assumption) (by assumption)⟩, ⟨rfl⟩, set_last3_ _ _ _ _ _ _ _ _ _⟩ | exact ⟨_, _, _, rfl, ⟨carouselref1_plus.c_neg a0_3 a1_3 k2 (by assumption) (by assumption)⟩, ⟨rfl⟩, set_last3_ _ _ _ _ _ _ _ _ _⟩
        case rest =>
          obtain ⟨n3, k3, t3, rfl, K3, T3, rfl⟩ := hcut
          go_wp2
          rw [rounds_succ]
          go_wp2
          have E := end4_ w (.cells #[.int .u64 a0_0, .int .u64 a0_1, .int .u64 a0_2, .int .u64 a0_3] 49) (.cells #[.int .u64 a1_0, .int .u64 a1_1, .int .u64 a1_2, .int .u64 a1_3] 49) (.cells #[.int .u64 t0, .int .u64 t1, .int .u64 t2, .int .u64 t3] 49) 49 n3 (.int .u64 0) (.int .u64 0) (.int .u64 0) (.int .u64 0) (.int .u64 t0) (.int .u64 t1) (.int .u64 t2) (.int .u64 t3)
          refine bodyPost_ret (results_cell_row rfl _ _ (w.heap.size + 1 + 1) 49 #[.int .u64 t0, .int .u64 t1, .int .u64 t2, .int .u64 t3] (0, 0) _ rfl E.1 hu49 rfl (by kernel_rfl)) rfl ⟨?_, E.2⟩
          have H := H0.out
          simp only [Option.some.injEq, Prod.mk.injEq] at H
          obtain ⟨rfl, rfl, rfl, rfl⟩ := H
          rw [T0.out, T1.out, T2.out, T3.out, K2.out, K1.out, K0.out]

/-! ### carouselref1_size: function 56 -/
def carouselref1_size.f (a0 : Int) : Option (Int) := if a0 < 0 then (some (IntKind.u64.wrap ((IntKind.u64.wrap (wrap64 (-(wrap64 (a0 + 1))))) + 1))) else (some (IntKind.u64.wrap (a0)))
set_option maxHeartbeats 8000000 in
set_option maxRecDepth 100000 in
theorem carouselref1_size.calls (a0 : Int) (r : Int) (w : World) (h : carouselref1_size.f a0 = some r) :
    Calls Try.prog 56 #[.int .i64 a0] w fun e w' => e = .returned (.int .u64 r) ∧ Drawn0 w w' := by
  have H : (if a0 < 0 then (some (IntKind.u64.wrap ((IntKind.u64.wrap (wrap64 (-(wrap64 (a0 + 1))))) + 1))) else (some (IntKind.u64.wrap (a0)))) = some r := h
  clear h
  by_cases c2 : a0 < 0
  · rw [if_pos c2] at H
    have c2b0 : decide (a0 < 0) = true := decide_eq_true c2
    clear c2
    obtain rfl := Option.some.inj H
    go_enter Try.func56, Try.ntmps56
    go_wp2
    go_ret
    exact ⟨by first | rfl | (simp; done) | (simp [*]; done), by repeat (first | exact Drawn0.refl _ | apply Drawn0.step)⟩
  · rw [if_neg c2] at H
    have c2b0 : decide (a0 < 0) = false := decide_eq_false c2
    clear c2
    obtain rfl := Option.some.inj H
    go_enter Try.func56, Try.ntmps56
    go_wp2
    go_ret
    exact ⟨by first | rfl | (simp; done) | (simp [*]; done), by repeat (first | exact Drawn0.refl _ | apply Drawn0.step)⟩

end Go.Proofs.Ytdamllanlligbaa.PActBends
