/- The functions that the law ActAll reaches, as Lean functions, and that each call of the Go function does what its Lean function says, wherever that one answers. Written by a program of mine over the print of the kit; Lean checks it. -/
import Derived.Test.YtdamllanlligbaaPActAllx0
import Derived.Test.YtdamllanlligbaaPActAllx6
namespace Go.Proofs.Ytdamllanlligbaa.PActAll
open Go.RowKit Go.Proofs.YtdamllanlligbaaW.PrintWords Go.Proofs.YtdamllanlligbaaW.PrintLast Go.Proofs.YtdamllanlligbaaW.PrintMore
attribute [local go_sem] max2_int min2_int max_two min_two max_three min_three max_four min_four   -- for this text's walks alone
set_option linter.unusedVariables false
set_option linter.unusedSimpArgs false

/-! ### carouselref5_Alike: function 18 -/
mutual
def carouselref5_Alike.j0 : Nat → Bool → List Int → List Int → List Int → List Int → Option (Bool)
  | 0, _, _, _, _, _ => none
  | k + 1, x20, x194000, x194001, x195000, x195001 => if x20 = true then (some false) else (carouselref5_Alike.l0 k 0 x194000 x194001 x195000 x195001)
def carouselref5_Alike.l0 : Nat → Int → List Int → List Int → List Int → List Int → Option (Bool)
  | 0, _, _, _, _, _ => none
  | k + 1, x5, x194000, x194001, x195000, x195001 => if x5 < (x194001.length : Int) then (if 0 ≤ x5 then (if x5 < (x195001.length : Int) then (if (rd x194001 x5) = (rd x195001 x5) then (carouselref5_Alike.l0 k (wrap64 (x5 + 1)) x194000 x194001 x195000 x195001) else (some false)) else (none)) else (none)) else (some true)
end
def carouselref5_Alike.f (k : Nat) (l0_0 : List Int) (l0_1 : List Int) (l1_0 : List Int) (l1_1 : List Int) : Option (Bool) := (carouselref5_Same.f k l0_0 l1_0).bind fun t195 => (if t195 = true then (carouselref5_Alike.j0 k ((l0_1.length : Int) != (l1_1.length : Int)) l0_0 l0_1 l1_0 l1_1) else (carouselref5_Alike.j0 k true l0_0 l0_1 l1_0 l1_1))
theorem carouselref5_Alike.mono_l : ∀ k, (∀ y0 y1 y2 y3 y4, LeO (carouselref5_Alike.j0 k y0 y1 y2 y3 y4) (carouselref5_Alike.j0 (k + 1) y0 y1 y2 y3 y4)) ∧ (∀ y0 y1 y2 y3 y4, LeO (carouselref5_Alike.l0 k y0 y1 y2 y3 y4) (carouselref5_Alike.l0 (k + 1) y0 y1 y2 y3 y4))
  | 0 => ⟨fun _ _ _ _ _ r h => by simp [carouselref5_Alike.j0] at h, fun _ _ _ _ _ r h => by simp [carouselref5_Alike.l0] at h⟩
  | k + 1 => by
    obtain ⟨ih0, ih1⟩ := carouselref5_Alike.mono_l k
    refine ⟨?_, ?_⟩
    · intro y0 y1 y2 y3 y4
      unfold carouselref5_Alike.j0
      repeat' first
      | (with_reducible exact ih0 _ _ _ _ _)
      | (with_reducible exact ih1 _ _ _ _ _)
      | (with_reducible exact carouselref5_Same.mono _ _ _)
      | (with_reducible exact LeO.refl _)
      | (with_reducible exact LeO.none _)
      | (with_reducible refine LeO.ite ?_ ?_)
      | (with_reducible refine LeO.bind ?_ (fun _ => ?_))
      | exact ih0 _ _ _ _ _
      | exact ih1 _ _ _ _ _
      | exact carouselref5_Same.mono _ _ _
      | exact LeO.none _
      | refine LeO.ite ?_ ?_
      | refine LeO.bind ?_ (fun _ => ?_)
    · intro y0 y1 y2 y3 y4
      unfold carouselref5_Alike.l0
      repeat' first
      | (with_reducible exact ih0 _ _ _ _ _)
      | (with_reducible exact ih1 _ _ _ _ _)
      | (with_reducible exact carouselref5_Same.mono _ _ _)
      | (with_reducible exact LeO.refl _)
      | (with_reducible exact LeO.none _)
      | (with_reducible refine LeO.ite ?_ ?_)
      | (with_reducible refine LeO.bind ?_ (fun _ => ?_))
      | exact ih0 _ _ _ _ _
      | exact ih1 _ _ _ _ _
      | exact carouselref5_Same.mono _ _ _
      | exact LeO.none _
      | refine LeO.ite ?_ ?_
      | refine LeO.bind ?_ (fun _ => ?_)
theorem carouselref5_Alike.mono : ∀ a0 a1 a2 a3 k, LeO (carouselref5_Alike.f k a0 a1 a2 a3) (carouselref5_Alike.f (k + 1) a0 a1 a2 a3) := by
  intro a0 a1 a2 a3 k
  obtain ⟨ih0, ih1⟩ := carouselref5_Alike.mono_l k
  unfold carouselref5_Alike.f
  repeat' first
      | (with_reducible exact ih0 _ _ _ _ _)
      | (with_reducible exact ih1 _ _ _ _ _)
      | (with_reducible exact carouselref5_Same.mono _ _ _)
      | (with_reducible exact LeO.refl _)
      | (with_reducible exact LeO.none _)
      | (with_reducible refine LeO.ite ?_ ?_)
      | (with_reducible refine LeO.bind ?_ (fun _ => ?_))
      | exact ih0 _ _ _ _ _
      | exact ih1 _ _ _ _ _
      | exact carouselref5_Same.mono _ _ _
      | exact LeO.none _
      | refine LeO.ite ?_ ?_
      | refine LeO.bind ?_ (fun _ => ?_)
set_option maxHeartbeats 8000000 in
set_option maxRecDepth 100000 in
theorem carouselref5_Alike.calls (k : Nat) (A0_0 : Option Addr) (c0_0 : Nat) (l0_0 : List Int) (A0_1 : Option Addr) (c0_1 : Nat) (l0_1 : List Int) (A1_0 : Option Addr) (c1_0 : Nat) (l1_0 : List Int) (A1_1 : Option Addr) (c1_1 : Nat) (l1_1 : List Int) (r : Bool) (w : World) (hr0_0 : Kd.C (Kd.int .i64) w A0_0 l0_0.length l0_0) (hc0_0 : l0_0.length ≤ c0_0) (hr0_1 : Kd.C (Kd.int .i64) w A0_1 l0_1.length l0_1) (hc0_1 : l0_1.length ≤ c0_1) (hr1_0 : Kd.C (Kd.int .i64) w A1_0 l1_0.length l1_0) (hc1_0 : l1_0.length ≤ c1_0) (hr1_1 : Kd.C (Kd.int .i64) w A1_1 l1_1.length l1_1) (hc1_1 : l1_1.length ≤ c1_1) (h : carouselref5_Alike.f k l0_0 l0_1 l1_0 l1_1 = some r) :
    Calls Try.prog 18 #[.agg #[.slice A0_0 l0_0.length c0_0, .slice A0_1 l0_1.length c0_1], .agg #[.slice A1_0 l1_0.length c1_0, .slice A1_1 l1_1.length c1_1]] w fun e w' => e = .returned (.bool r) ∧ Below w.heap.size w w' := by
  have hu34 := Try.underlying34
  have HR0_0 := Aside0.mk hr0_0
  have HC0_0 := Aside0.mk hc0_0
  clear hr0_0 hc0_0
  have HR0_1 := Aside0.mk hr0_1
  have HC0_1 := Aside0.mk hc0_1
  clear hr0_1 hc0_1
  have HR1_0 := Aside0.mk hr1_0
  have HC1_0 := Aside0.mk hc1_0
  clear hr1_0 hc1_0
  have HR1_1 := Aside0.mk hr1_1
  have HC1_1 := Aside0.mk hc1_1
  clear hr1_1 hc1_1
  have HB := Aside0.mk (Below.refl w.heap.size w)
  have H : ((carouselref5_Same.f k l0_0 l1_0).bind fun t195 => (if t195 = true then (carouselref5_Alike.j0 k ((l0_1.length : Int) != (l1_1.length : Int)) l0_0 l0_1 l1_0 l1_1) else (carouselref5_Alike.j0 k true l0_0 l0_1 l1_0 l1_1))) = some r := h
  clear h
  have HC3 := Aside0.mk H
  clear H
  go_enter Try.func18, Try.ntmps18
  go_upto_region 1 with (first | ((with_reducible refine gate_dst (N := 2) rfl ?_); (try (refine gate_guard (by rfl) ?_; dsimp only)); refine box_event ?hg (N := 2) ?hd (cs := #[.slice A0_0 l0_0.length c0_0, .slice A0_1 l0_1.length c0_1]) (t := 34) ?hr ?_; (case hd => rfl); (case hg => rfl); (case hr => first | (go_simp; done) | (go_simp; rfl)); intro gb193 hg w4 hbox hb; have n0_ := Aside0.mk (below_step (by repeat (first | (with_reducible first | exact HB.out | apply below_alloc | apply pw_below_drewN | apply below_drew1) | exact HB.out)) hb); have n1_ := Aside0.mk (hbox); have n2_ := Aside0.mk ((by rw [hg]; exact (below_size (by repeat (first | (with_reducible first | exact HB.out | apply below_alloc | apply pw_below_drewN | apply below_drew1) | exact HB.out))) : w.heap.size ≤ gb193)); have n3_ := Aside0.mk ((by rw [hg]; exact (below_size (by repeat (first | (with_reducible first | exact HB.out | apply below_alloc | apply pw_below_drewN | apply below_drew1) | exact HB.out))) : w.heap.size ≤ gb193)); clear HB; have HB := n0_; have BK193 := n1_; have GW193 := n2_; have GE193 := n3_; clear n0_ n1_ n2_ n3_; clear hb hbox hg) | ((with_reducible refine gate_dst (N := 3) rfl ?_); (try (refine gate_guard (by rfl) ?_; dsimp only)); refine box_event ?hg (N := 3) ?hd (cs := #[.slice A1_0 l1_0.length c1_0, .slice A1_1 l1_1.length c1_1]) (t := 34) ?hr ?_; (case hd => rfl); (case hg => rfl); (case hr => first | (go_simp; done) | (go_simp; rfl)); intro gb194 hg w5 hbox hb; have n0_ := Aside0.mk (blk_below (g := gb193) (o := .cells #[.slice A0_0 l0_0.length c0_0, .slice A0_1 l0_1.length c0_1] 34 (0, 0)) (by (with_reducible repeat (first | refine blk_drewN ?_ _ | refine blk_drew ?_ | refine blk_alloc ?_ _)); exact BK193.out) hb); have n1_ := Aside0.mk (below_step (by repeat (first | (with_reducible first | exact HB.out | apply below_alloc | apply pw_below_drewN | apply below_drew1 | refine below_set ?_ GE193.out) | exact HB.out)) hb); have n2_ := Aside0.mk (hbox); have n3_ := Aside0.mk ((by rw [hg]; exact (below_size (by repeat (first | (with_reducible first | exact HB.out | apply below_alloc | apply pw_below_drewN | apply below_drew1 | refine below_set ?_ GE193.out) | exact HB.out))) : w.heap.size ≤ gb194)); have n4_ := Aside0.mk ((by rw [hg]; exact (below_size (by repeat (first | (with_reducible first | exact HB.out | apply below_alloc | apply pw_below_drewN | apply below_drew1 | refine below_set ?_ GE193.out) | exact HB.out))) : w.heap.size ≤ gb194)); have n5_ := Aside0.mk ((by rw [hg]; exact Nat.ne_of_lt (blk_lt (g := gb193) (o := .cells #[.slice A0_0 l0_0.length c0_0, .slice A0_1 l0_1.length c0_1] 34 (0, 0)) (by (with_reducible repeat (first | refine blk_drewN ?_ _ | refine blk_drew ?_ | refine blk_alloc ?_ _)); exact BK193.out)) : gb193 ≠ gb194)); have n6_ := Aside0.mk ((by rw [hg]; exact Nat.ne_of_gt (blk_lt (g := gb193) (o := .cells #[.slice A0_0 l0_0.length c0_0, .slice A0_1 l0_1.length c0_1] 34 (0, 0)) (by (with_reducible repeat (first | refine blk_drewN ?_ _ | refine blk_drew ?_ | refine blk_alloc ?_ _)); exact BK193.out)) : gb194 ≠ gb193)); clear BK193; clear HB; have BK193 := n0_; have HB := n1_; have BK194 := n2_; have GW194 := n3_; have GE194 := n4_; have NB193_194 := n5_; have NB194_193 := n6_; clear n0_ n1_ n2_ n3_ n4_ n5_ n6_; clear hb hbox hg))
  repeat (go_quiet (first | ((with_reducible refine gate_dst (N := 2) rfl ?_); (try (refine gate_guard (by rfl) ?_; dsimp only)); refine box_event ?hg (N := 2) ?hd (cs := #[.slice A0_0 l0_0.length c0_0, .slice A0_1 l0_1.length c0_1]) (t := 34) ?hr ?_; (case hd => rfl); (case hg => rfl); (case hr => first | (go_simp; done) | (go_simp; rfl)); intro gb193 hg w4 hbox hb; have n0_ := Aside0.mk (below_step (by repeat (first | (with_reducible first | exact HB.out | apply below_alloc | apply pw_below_drewN | apply below_drew1) | exact HB.out)) hb); have n1_ := Aside0.mk (hbox); have n2_ := Aside0.mk ((by rw [hg]; exact (below_size (by repeat (first | (with_reducible first | exact HB.out | apply below_alloc | apply pw_below_drewN | apply below_drew1) | exact HB.out))) : w.heap.size ≤ gb193)); have n3_ := Aside0.mk ((by rw [hg]; exact (below_size (by repeat (first | (with_reducible first | exact HB.out | apply below_alloc | apply pw_below_drewN | apply below_drew1) | exact HB.out))) : w.heap.size ≤ gb193)); clear HB; have HB := n0_; have BK193 := n1_; have GW193 := n2_; have GE193 := n3_; clear n0_ n1_ n2_ n3_; clear hb hbox hg) | ((with_reducible refine gate_dst (N := 3) rfl ?_); (try (refine gate_guard (by rfl) ?_; dsimp only)); refine box_event ?hg (N := 3) ?hd (cs := #[.slice A1_0 l1_0.length c1_0, .slice A1_1 l1_1.length c1_1]) (t := 34) ?hr ?_; (case hd => rfl); (case hg => rfl); (case hr => first | (go_simp; done) | (go_simp; rfl)); intro gb194 hg w5 hbox hb; have n0_ := Aside0.mk (blk_below (g := gb193) (o := .cells #[.slice A0_0 l0_0.length c0_0, .slice A0_1 l0_1.length c0_1] 34 (0, 0)) (by (with_reducible repeat (first | refine blk_drewN ?_ _ | refine blk_drew ?_ | refine blk_alloc ?_ _)); exact BK193.out) hb); have n1_ := Aside0.mk (below_step (by repeat (first | (with_reducible first | exact HB.out | apply below_alloc | apply pw_below_drewN | apply below_drew1 | refine below_set ?_ GE193.out) | exact HB.out)) hb); have n2_ := Aside0.mk (hbox); have n3_ := Aside0.mk ((by rw [hg]; exact (below_size (by repeat (first | (with_reducible first | exact HB.out | apply below_alloc | apply pw_below_drewN | apply below_drew1 | refine below_set ?_ GE193.out) | exact HB.out))) : w.heap.size ≤ gb194)); have n4_ := Aside0.mk ((by rw [hg]; exact (below_size (by repeat (first | (with_reducible first | exact HB.out | apply below_alloc | apply pw_below_drewN | apply below_drew1 | refine below_set ?_ GE193.out) | exact HB.out))) : w.heap.size ≤ gb194)); have n5_ := Aside0.mk ((by rw [hg]; exact Nat.ne_of_lt (blk_lt (g := gb193) (o := .cells #[.slice A0_0 l0_0.length c0_0, .slice A0_1 l0_1.length c0_1] 34 (0, 0)) (by (with_reducible repeat (first | refine blk_drewN ?_ _ | refine blk_drew ?_ | refine blk_alloc ?_ _)); exact BK193.out)) : gb193 ≠ gb194)); have n6_ := Aside0.mk ((by rw [hg]; exact Nat.ne_of_gt (blk_lt (g := gb193) (o := .cells #[.slice A0_0 l0_0.length c0_0, .slice A0_1 l0_1.length c0_1] 34 (0, 0)) (by (with_reducible repeat (first | refine blk_drewN ?_ _ | refine blk_drew ?_ | refine blk_alloc ?_ _)); exact BK193.out)) : gb194 ≠ gb193)); clear BK193; clear HB; have BK193 := n0_; have HB := n1_; have BK194 := n2_; have GW194 := n3_; have GE194 := n4_; have NB193_194 := n5_; have NB194_193 := n6_; clear n0_ n1_ n2_ n3_ n4_ n5_ n6_; clear hb hbox hg)); go_upto_region 1 with (first | ((with_reducible refine gate_dst (N := 2) rfl ?_); (try (refine gate_guard (by rfl) ?_; dsimp only)); refine box_event ?hg (N := 2) ?hd (cs := #[.slice A0_0 l0_0.length c0_0, .slice A0_1 l0_1.length c0_1]) (t := 34) ?hr ?_; (case hd => rfl); (case hg => rfl); (case hr => first | (go_simp; done) | (go_simp; rfl)); intro gb193 hg w4 hbox hb; have n0_ := Aside0.mk (below_step (by repeat (first | (with_reducible first | exact HB.out | apply below_alloc | apply pw_below_drewN | apply below_drew1) | exact HB.out)) hb); have n1_ := Aside0.mk (hbox); have n2_ := Aside0.mk ((by rw [hg]; exact (below_size (by repeat (first | (with_reducible first | exact HB.out | apply below_alloc | apply pw_below_drewN | apply below_drew1) | exact HB.out))) : w.heap.size ≤ gb193)); have n3_ := Aside0.mk ((by rw [hg]; exact (below_size (by repeat (first | (with_reducible first | exact HB.out | apply below_alloc | apply pw_below_drewN | apply below_drew1) | exact HB.out))) : w.heap.size ≤ gb193)); clear HB; have HB := n0_; have BK193 := n1_; have GW193 := n2_; have GE193 := n3_; clear n0_ n1_ n2_ n3_; clear hb hbox hg) | ((with_reducible refine gate_dst (N := 3) rfl ?_); (try (refine gate_guard (by rfl) ?_; dsimp only)); refine box_event ?hg (N := 3) ?hd (cs := #[.slice A1_0 l1_0.length c1_0, .slice A1_1 l1_1.length c1_1]) (t := 34) ?hr ?_; (case hd => rfl); (case hg => rfl); (case hr => first | (go_simp; done) | (go_simp; rfl)); intro gb194 hg w5 hbox hb; have n0_ := Aside0.mk (blk_below (g := gb193) (o := .cells #[.slice A0_0 l0_0.length c0_0, .slice A0_1 l0_1.length c0_1] 34 (0, 0)) (by (with_reducible repeat (first | refine blk_drewN ?_ _ | refine blk_drew ?_ | refine blk_alloc ?_ _)); exact BK193.out) hb); have n1_ := Aside0.mk (below_step (by repeat (first | (with_reducible first | exact HB.out | apply below_alloc | apply pw_below_drewN | apply below_drew1 | refine below_set ?_ GE193.out) | exact HB.out)) hb); have n2_ := Aside0.mk (hbox); have n3_ := Aside0.mk ((by rw [hg]; exact (below_size (by repeat (first | (with_reducible first | exact HB.out | apply below_alloc | apply pw_below_drewN | apply below_drew1 | refine below_set ?_ GE193.out) | exact HB.out))) : w.heap.size ≤ gb194)); have n4_ := Aside0.mk ((by rw [hg]; exact (below_size (by repeat (first | (with_reducible first | exact HB.out | apply below_alloc | apply pw_below_drewN | apply below_drew1 | refine below_set ?_ GE193.out) | exact HB.out))) : w.heap.size ≤ gb194)); have n5_ := Aside0.mk ((by rw [hg]; exact Nat.ne_of_lt (blk_lt (g := gb193) (o := .cells #[.slice A0_0 l0_0.length c0_0, .slice A0_1 l0_1.length c0_1] 34 (0, 0)) (by (with_reducible repeat (first | refine blk_drewN ?_ _ | refine blk_drew ?_ | refine blk_alloc ?_ _)); exact BK193.out)) : gb193 ≠ gb194)); have n6_ := Aside0.mk ((by rw [hg]; exact Nat.ne_of_gt (blk_lt (g := gb193) (o := .cells #[.slice A0_0 l0_0.length c0_0, .slice A0_1 l0_1.length c0_1] 34 (0, 0)) (by (with_reducible repeat (first | refine blk_drewN ?_ _ | refine blk_drew ?_ | refine blk_alloc ?_ _)); exact BK193.out)) : gb194 ≠ gb193)); clear BK193; clear HB; have BK193 := n0_; have HB := n1_; have BK194 := n2_; have GW194 := n3_; have GE194 := n4_; have NB193_194 := n5_; have NB194_193 := n6_; clear n0_ n1_ n2_ n3_ n4_ n5_ n6_; clear hb hbox hg)))
  (try simp only [Act.put, List.setIfInBounds_toArray, List.set_cons_zero, List.set_cons_succ])
  go_cut [20] (fun v20 wc => ∃ (kq : Nat) (x20_2 : Bool), v20 = .bool x20_2 ∧ Aside0 (carouselref5_Alike.j0 kq x20_2 l0_0 l0_1 l1_0 l1_1 = some r) ∧ Aside0 (kq ≤ k) ∧ Aside0 (wc.heap[gb193]? = some (.cells #[(.slice A0_0 l0_0.length c0_0), (.slice A0_1 l0_1.length c0_1)] 34 (0, 0))) ∧ Aside0 (wc.heap[gb194]? = some (.cells #[(.slice A1_0 l1_0.length c1_0), (.slice A1_1 l1_1.length c1_1)] 34 (0, 0))) ∧ Aside0 (Below w.heap.size w wc))
  case first =>
    have H := HC3.out
    clear HC3
    replace H := Option.bind_eq_some_iff.mp H
    obtain ⟨t195, A60, H⟩ := H
    replace H : (if t195 = true then (carouselref5_Alike.j0 k ((l0_1.length : Int) != (l1_1.length : Int)) l0_0 l0_1 l1_0 l1_1) else (carouselref5_Alike.j0 k true l0_0 l0_1 l1_0 l1_1)) = some r := H
    have A6 := Aside0.mk A60
    clear A60
    by_cases c7 : t195 = true
    · subst c7
      have H1 : (carouselref5_Alike.j0 k ((l0_1.length : Int) != (l1_1.length : Int)) l0_0 l0_1 l1_0 l1_1) = some r := by rw [if_pos rfl] at H; exact H
      clear H
      have H := H1
      clear H1
      have H' := Aside0.mk H
      clear H
      have hnb8 := NB193_194.out
      have hnc8 := NB194_193.out
      have hcz9_0 : w5.cell? ⟨gb193, 0, none⟩ = some (.slice A0_0 l0_0.length c0_0) := (blk_cell BK193.out 0).trans rfl
      have hcz9_1 : w5.cell? ⟨gb193, 1, none⟩ = some (.slice A0_1 l0_1.length c0_1) := (blk_cell BK193.out 1).trans rfl
      have hfz9_0 := blk_frozen BK193.out 0
      have hfz9_1 := blk_frozen BK193.out 1
      have hcz10_0 : w5.cell? ⟨gb194, 0, none⟩ = some (.slice A1_0 l1_0.length c1_0) := (blk_cell BK194.out 0).trans rfl
      have hcz10_1 : w5.cell? ⟨gb194, 1, none⟩ = some (.slice A1_1 l1_1.length c1_1) := (blk_cell BK194.out 1).trans rfl
      have hfz10_0 := blk_frozen BK194.out 0
      have hfz10_1 := blk_frozen BK194.out 1
      go_wp2_with (first | (go_at_call 41; (with_reducible refine (carouselref5_Same.calls k _ _ l0_0 _ _ l1_0 true _ ?side1 ?side2 ?side3 ?side4 A6.out).mono ?_); (case side1 => repeat (first | exact (Kd.C_below HR0_0.out HB.out) | (with_reducible refine Kd.C_alloc ?_ _) | (with_reducible refine Kd.C_drewN ?_ _) | (with_reducible refine Kd.C_drew ?_))); (case side2 => exact HC0_0.out); (case side3 => repeat (first | exact (Kd.C_below HR1_0.out HB.out) | (with_reducible refine Kd.C_alloc ?_ _) | (with_reducible refine Kd.C_drewN ?_ _) | (with_reducible refine Kd.C_drew ?_))); (case side4 => exact HC1_0.out); rintro e w' ⟨rfl, ⟨nd, rfl⟩⟩; (try first | exact ⟨rfl, _, World.drewN_drewN _ _ _⟩ | exact ⟨rfl, _, Eq.trans (World.drewN_drewN _ _ _) (congrArg (World.drewN _) (Nat.add_assoc _ _ _))⟩)))
      repeat (go_quiet (first | (go_at_call 41; (with_reducible refine (carouselref5_Same.calls k _ _ l0_0 _ _ l1_0 true _ ?side1 ?side2 ?side3 ?side4 A6.out).mono ?_); (case side1 => repeat (first | exact (Kd.C_below HR0_0.out HB.out) | (with_reducible refine Kd.C_alloc ?_ _) | (with_reducible refine Kd.C_drewN ?_ _) | (with_reducible refine Kd.C_drew ?_))); (case side2 => exact HC0_0.out); (case side3 => repeat (first | exact (Kd.C_below HR1_0.out HB.out) | (with_reducible refine Kd.C_alloc ?_ _) | (with_reducible refine Kd.C_drewN ?_ _) | (with_reducible refine Kd.C_drew ?_))); (case side4 => exact HC1_0.out); rintro e w' ⟨rfl, ⟨nd, rfl⟩⟩; (try first | exact ⟨rfl, _, World.drewN_drewN _ _ _⟩ | exact ⟨rfl, _, Eq.trans (World.drewN_drewN _ _ _) (congrArg (World.drewN _) (Nat.add_assoc _ _ _))⟩))); try go_wp2_with (first | (go_at_call 41; (with_reducible refine (carouselref5_Same.calls k _ _ l0_0 _ _ l1_0 true _ ?side1 ?side2 ?side3 ?side4 A6.out).mono ?_); (case side1 => repeat (first | exact (Kd.C_below HR0_0.out HB.out) | (with_reducible refine Kd.C_alloc ?_ _) | (with_reducible refine Kd.C_drewN ?_ _) | (with_reducible refine Kd.C_drew ?_))); (case side2 => exact HC0_0.out); (case side3 => repeat (first | exact (Kd.C_below HR1_0.out HB.out) | (with_reducible refine Kd.C_alloc ?_ _) | (with_reducible refine Kd.C_drewN ?_ _) | (with_reducible refine Kd.C_drew ?_))); (case side4 => exact HC1_0.out); rintro e w' ⟨rfl, ⟨nd, rfl⟩⟩; (try first | exact ⟨rfl, _, World.drewN_drewN _ _ _⟩ | exact ⟨rfl, _, Eq.trans (World.drewN_drewN _ _ _) (congrArg (World.drewN _) (Nat.add_assoc _ _ _))⟩))))
      go_meet
      case rel => exact ⟨_, (((l0_1.length : Int) != (l1_1.length : Int))), (by first | rfl | (simp; done) | (simp [*]; done)), H', ⟨by first | omega | exact Nat.le_refl _⟩, ⟨by (with_reducible repeat (first | refine blk_drewN ?_ _ | refine blk_drew ?_ | refine blk_alloc ?_ _)); exact BK193.out⟩, ⟨by (with_reducible repeat (first | refine blk_drewN ?_ _ | refine blk_drew ?_ | refine blk_alloc ?_ _)); exact BK194.out⟩, ⟨by repeat (first | (with_reducible first | exact HB.out | apply below_alloc | apply pw_below_drewN | apply below_drew1 | refine below_set ?_ GE193.out | refine below_set ?_ GE194.out) | exact HB.out)⟩⟩
    · replace c7 := Bool.eq_false_iff.mpr c7
      subst c7
      have H1 : (carouselref5_Alike.j0 k true l0_0 l0_1 l1_0 l1_1) = some r := by rw [if_neg (show ¬ (false = true) by decide)] at H; exact H
      clear H
      have H := H1
      clear H1
      have H' := Aside0.mk H
      clear H
      have hnb11 := NB193_194.out
      have hnc11 := NB194_193.out
      have hcz12_0 : w5.cell? ⟨gb193, 0, none⟩ = some (.slice A0_0 l0_0.length c0_0) := (blk_cell BK193.out 0).trans rfl
      have hcz12_1 : w5.cell? ⟨gb193, 1, none⟩ = some (.slice A0_1 l0_1.length c0_1) := (blk_cell BK193.out 1).trans rfl
      have hfz12_0 := blk_frozen BK193.out 0
      have hfz12_1 := blk_frozen BK193.out 1
      have hcz13_0 : w5.cell? ⟨gb194, 0, none⟩ = some (.slice A1_0 l1_0.length c1_0) := (blk_cell BK194.out 0).trans rfl
      have hcz13_1 : w5.cell? ⟨gb194, 1, none⟩ = some (.slice A1_1 l1_1.length c1_1) := (blk_cell BK194.out 1).trans rfl
      have hfz13_0 := blk_frozen BK194.out 0
      have hfz13_1 := blk_frozen BK194.out 1
      go_wp2_with (first | (go_at_call 41; (with_reducible refine (carouselref5_Same.calls k _ _ l0_0 _ _ l1_0 false _ ?side1 ?side2 ?side3 ?side4 A6.out).mono ?_); (case side1 => repeat (first | exact (Kd.C_below HR0_0.out HB.out) | (with_reducible refine Kd.C_alloc ?_ _) | (with_reducible refine Kd.C_drewN ?_ _) | (with_reducible refine Kd.C_drew ?_))); (case side2 => exact HC0_0.out); (case side3 => repeat (first | exact (Kd.C_below HR1_0.out HB.out) | (with_reducible refine Kd.C_alloc ?_ _) | (with_reducible refine Kd.C_drewN ?_ _) | (with_reducible refine Kd.C_drew ?_))); (case side4 => exact HC1_0.out); rintro e w' ⟨rfl, ⟨nd, rfl⟩⟩; (try first | exact ⟨rfl, _, World.drewN_drewN _ _ _⟩ | exact ⟨rfl, _, Eq.trans (World.drewN_drewN _ _ _) (congrArg (World.drewN _) (Nat.add_assoc _ _ _))⟩)))
      repeat (go_quiet (first | (go_at_call 41; (with_reducible refine (carouselref5_Same.calls k _ _ l0_0 _ _ l1_0 false _ ?side1 ?side2 ?side3 ?side4 A6.out).mono ?_); (case side1 => repeat (first | exact (Kd.C_below HR0_0.out HB.out) | (with_reducible refine Kd.C_alloc ?_ _) | (with_reducible refine Kd.C_drewN ?_ _) | (with_reducible refine Kd.C_drew ?_))); (case side2 => exact HC0_0.out); (case side3 => repeat (first | exact (Kd.C_below HR1_0.out HB.out) | (with_reducible refine Kd.C_alloc ?_ _) | (with_reducible refine Kd.C_drewN ?_ _) | (with_reducible refine Kd.C_drew ?_))); (case side4 => exact HC1_0.out); rintro e w' ⟨rfl, ⟨nd, rfl⟩⟩; (try first | exact ⟨rfl, _, World.drewN_drewN _ _ _⟩ | exact ⟨rfl, _, Eq.trans (World.drewN_drewN _ _ _) (congrArg (World.drewN _) (Nat.add_assoc _ _ _))⟩))); try go_wp2_with (first | (go_at_call 41; (with_reducible refine (carouselref5_Same.calls k _ _ l0_0 _ _ l1_0 false _ ?side1 ?side2 ?side3 ?side4 A6.out).mono ?_); (case side1 => repeat (first | exact (Kd.C_below HR0_0.out HB.out) | (with_reducible refine Kd.C_alloc ?_ _) | (with_reducible refine Kd.C_drewN ?_ _) | (with_reducible refine Kd.C_drew ?_))); (case side2 => exact HC0_0.out); (case side3 => repeat (first | exact (Kd.C_below HR1_0.out HB.out) | (with_reducible refine Kd.C_alloc ?_ _) | (with_reducible refine Kd.C_drewN ?_ _) | (with_reducible refine Kd.C_drew ?_))); (case side4 => exact HC1_0.out); rintro e w' ⟨rfl, ⟨nd, rfl⟩⟩; (try first | exact ⟨rfl, _, World.drewN_drewN _ _ _⟩ | exact ⟨rfl, _, Eq.trans (World.drewN_drewN _ _ _) (congrArg (World.drewN _) (Nat.add_assoc _ _ _))⟩))))
      go_meet
      case rel => exact ⟨_, (true), (by first | rfl | (simp; done) | (simp [*]; done)), H', ⟨by first | omega | exact Nat.le_refl _⟩, ⟨by (with_reducible repeat (first | refine blk_drewN ?_ _ | refine blk_drew ?_ | refine blk_alloc ?_ _)); exact BK193.out⟩, ⟨by (with_reducible repeat (first | refine blk_drewN ?_ _ | refine blk_drew ?_ | refine blk_alloc ?_ _)); exact BK194.out⟩, ⟨by repeat (first | (with_reducible first | exact HB.out | apply below_alloc | apply pw_below_drewN | apply below_drew1 | refine below_set ?_ GE193.out | refine below_set ?_ GE194.out) | exact HB.out)⟩⟩
  case rest =>
    clear HC3
    try clear c1
    try clear p2
    try clear c7
    try clear c8
    try clear c11
    try clear hcz10_0
    try clear hcz10_1
    try clear hcz12_0
    try clear hcz12_1
    try clear hcz13_0
    try clear hcz13_1
    try clear hcz9_0
    try clear hcz9_1
    try clear hfz10_0
    try clear hfz10_1
    try clear hfz12_0
    try clear hfz12_1
    try clear hfz13_0
    try clear hfz13_1
    try clear hfz9_0
    try clear hfz9_1
    obtain ⟨kq, x20_2, rfl, HA, HJ2, BK193, BK194, HB⟩ := hcut
    cases kq with
    | zero => exact absurd HA.out (by simp [carouselref5_Alike.j0])
    | succ kj2 =>
      have H := HA.out
      clear HA
      simp only [carouselref5_Alike.j0] at H
      by_cases c14 : x20_2 = true
      · subst c14
        have H1 : (some false) = some r := by rw [if_pos rfl] at H; exact H
        clear H
        have H := H1
        clear H1
        obtain rfl := Option.some.inj H
        go_wp2
        repeat (go_quiet (fail); try go_wp2)
        go_ret
        exact ⟨by first | rfl | (simp [errW_none, errW_some] <;> rfl) | (simp [*, errW_none, errW_some] <;> rfl), by repeat (first | (with_reducible first | exact HB.out | apply below_alloc | apply pw_below_drewN | apply below_drew1 | refine below_set ?_ GE193.out | refine below_set ?_ GE194.out) | exact HB.out)⟩
      · replace c14 := Bool.eq_false_iff.mpr c14
        subst c14
        have H1 : (carouselref5_Alike.l0 kj2 0 l0_0 l0_1 l1_0 l1_1) = some r := by rw [if_neg (show ¬ (false = true) by decide)] at H; exact H
        clear H
        have H := H1
        clear H1
        have H' := Aside0.mk H
        clear H
        go_wp2
        repeat (go_quiet (fail); try go_wp2)
        go_loopg [5] kj2 (fun kq v5 w' => ∃ (x5_2 : Int), v5 = .int .i64 x5_2 ∧ Aside0 (carouselref5_Alike.l0 kq x5_2 l0_0 l0_1 l1_0 l1_1 = some r) ∧ Aside0 (kq ≤ kj2) ∧ Aside0 (w'.heap[gb193]? = some (.cells #[(.slice A0_0 l0_0.length c0_0), (.slice A0_1 l0_1.length c0_1)] 34 (0, 0))) ∧ Aside0 (w'.heap[gb194]? = some (.cells #[(.slice A1_0 l1_0.length c1_0), (.slice A1_1 l1_1.length c1_1)] 34 (0, 0))) ∧ Aside0 (Below w.heap.size w w'))
        case atStart => exact ⟨(0), (by first | rfl | (simp; done) | (simp [*]; done)), H', ⟨Nat.le_refl _⟩, ⟨by (with_reducible repeat (first | refine blk_drewN ?_ _ | refine blk_drew ?_ | refine blk_alloc ?_ _)); exact BK193.out⟩, ⟨by (with_reducible repeat (first | refine blk_drewN ?_ _ | refine blk_drew ?_ | refine blk_alloc ?_ _)); exact BK194.out⟩, ⟨by repeat (first | (with_reducible first | exact HB.out | apply below_alloc | apply pw_below_drewN | apply below_drew1 | refine below_set ?_ GE193.out | refine below_set ?_ GE194.out) | exact HB.out)⟩⟩
        case round =>
          clear H'
          try clear c1
          try clear p2
          try clear c7
          try clear c8
          try clear c11
          try clear c14
          try clear hcz10_0
          try clear hcz10_1
          try clear hcz12_0
          try clear hcz12_1
          try clear hcz13_0
          try clear hcz13_1
          try clear hcz9_0
          try clear hcz9_1
          try clear hfz10_0
          try clear hfz10_1
          try clear hfz12_0
          try clear hfz12_1
          try clear hfz13_0
          try clear hfz13_1
          try clear hfz9_0
          try clear hfz9_1
          try clear p2
          obtain ⟨x5_2, rfl, HA, HK2, BK193, BK194, HB⟩ := hrel
          cases gk with
          | zero => exact absurd HA.out (by simp [carouselref5_Alike.l0])
          | succ k2 =>
            have H := HA.out
            clear HA
            simp only [carouselref5_Alike.l0] at H
            by_cases c15 : x5_2 < (l0_1.length : Int)
            · rw [if_pos c15] at H
              have c15b0 : decide (x5_2 < (l0_1.length : Int)) = true := decide_eq_true c15
              clear c15
              by_cases c16 : 0 ≤ x5_2
              · rw [if_pos c16] at H
                have c16b0 : decide (0 ≤ x5_2) = true := decide_eq_true c16
                clear c16
                by_cases c17 : x5_2 < (l1_1.length : Int)
                · rw [if_pos c17] at H
                  have c17b0 : decide (x5_2 < (l1_1.length : Int)) = true := decide_eq_true c17
                  clear c17
                  by_cases c18 : (rd l0_1 x5_2) = (rd l1_1 x5_2)
                  · rw [if_pos c18] at H
                    have c18b0 : ((rd l0_1 x5_2) == (rd l1_1 x5_2)) = true := beq_iff_eq.mpr c18
                    have c18b1 : ((rd l0_1 x5_2) != (rd l1_1 x5_2)) = false := bne_eq_false_iff_eq.mpr c18
                    clear c18
                    have H' := Aside0.mk H
                    clear H
                    have hnb19 := NB193_194.out
                    have hnc19 := NB194_193.out
                    have hcz20_0 : wr.cell? ⟨gb193, 0, none⟩ = some (.slice A0_0 l0_0.length c0_0) := (blk_cell BK193.out 0).trans rfl
                    have hcz20_1 : wr.cell? ⟨gb193, 1, none⟩ = some (.slice A0_1 l0_1.length c0_1) := (blk_cell BK193.out 1).trans rfl
                    have hfz20_0 := blk_frozen BK193.out 0
                    have hfz20_1 := blk_frozen BK193.out 1
                    have p196 : 0 ≤ (x5_2 : Int) := of_decide_eq_true (by first | (with_reducible assumption) | assumption)
                    have q196 : x5_2 < (l0_1.length : Int) := of_decide_eq_true (by first | (with_reducible assumption) | assumption)
                    obtain ⟨ad196, e196, hx196_0⟩ := Kd.at_int HR0_1.out x5_2 p196 q196
                    cases e196
                    replace hx196_0 := (HB.out.cell (World.block_lt_of_cell? w _ hx196_0)).trans hx196_0
                    replace p196 := eq_true p196
                    replace q196 := eq_true q196
                    have hcz21_0 : wr.cell? ⟨gb194, 0, none⟩ = some (.slice A1_0 l1_0.length c1_0) := (blk_cell BK194.out 0).trans rfl
                    have hcz21_1 : wr.cell? ⟨gb194, 1, none⟩ = some (.slice A1_1 l1_1.length c1_1) := (blk_cell BK194.out 1).trans rfl
                    have hfz21_0 := blk_frozen BK194.out 0
                    have hfz21_1 := blk_frozen BK194.out 1
                    have p197 : 0 ≤ (x5_2 : Int) := of_decide_eq_true (by first | (with_reducible assumption) | assumption)
                    have q197 : x5_2 < (l1_1.length : Int) := of_decide_eq_true (by first | (with_reducible assumption) | assumption)
                    obtain ⟨ad197, e197, hx197_0⟩ := Kd.at_int HR1_1.out x5_2 p197 q197
                    cases e197
                    replace hx197_0 := (HB.out.cell (World.block_lt_of_cell? w _ hx197_0)).trans hx197_0
                    replace p197 := eq_true p197
                    replace q197 := eq_true q197
                    go_wp2
                    repeat (go_quiet (fail); try go_wp2)
                    go_roundg k2
                    case measure => have := HJ2.out; have := HK2.out; omega
                    case rel => exact ⟨(wrap64 (x5_2 + 1)), (by first | rfl | (simp; done) | (simp [*]; done)), H', ⟨by have := HJ2.out; have := HK2.out; omega⟩, ⟨by (with_reducible repeat (first | refine blk_drewN ?_ _ | refine blk_drew ?_ | refine blk_alloc ?_ _)); exact BK193.out⟩, ⟨by (with_reducible repeat (first | refine blk_drewN ?_ _ | refine blk_drew ?_ | refine blk_alloc ?_ _)); exact BK194.out⟩, ⟨by repeat (first | (with_reducible first | exact HB.out | apply below_alloc | apply pw_below_drewN | apply below_drew1 | refine below_set ?_ GE193.out | refine below_set ?_ GE194.out) | exact HB.out)⟩⟩
                  · rw [if_neg c18] at H
                    have c18b0 : ((rd l0_1 x5_2) == (rd l1_1 x5_2)) = false := beq_eq_false_iff_ne.mpr c18
                    have c18b1 : ((rd l0_1 x5_2) != (rd l1_1 x5_2)) = true := bne_iff_ne.mpr c18
                    obtain rfl := Option.some.inj H
                    have hnb22 := NB193_194.out
                    have hnc22 := NB194_193.out
                    have hcz23_0 : wr.cell? ⟨gb193, 0, none⟩ = some (.slice A0_0 l0_0.length c0_0) := (blk_cell BK193.out 0).trans rfl
                    have hcz23_1 : wr.cell? ⟨gb193, 1, none⟩ = some (.slice A0_1 l0_1.length c0_1) := (blk_cell BK193.out 1).trans rfl
                    have hfz23_0 := blk_frozen BK193.out 0
                    have hfz23_1 := blk_frozen BK193.out 1
                    have p196 : 0 ≤ (x5_2 : Int) := of_decide_eq_true (by first | (with_reducible assumption) | assumption)
                    have q196 : x5_2 < (l0_1.length : Int) := of_decide_eq_true (by first | (with_reducible assumption) | assumption)
                    obtain ⟨ad196, e196, hx196_0⟩ := Kd.at_int HR0_1.out x5_2 p196 q196
                    cases e196
                    replace hx196_0 := (HB.out.cell (World.block_lt_of_cell? w _ hx196_0)).trans hx196_0
                    replace p196 := eq_true p196
                    replace q196 := eq_true q196
                    have hcz24_0 : wr.cell? ⟨gb194, 0, none⟩ = some (.slice A1_0 l1_0.length c1_0) := (blk_cell BK194.out 0).trans rfl
                    have hcz24_1 : wr.cell? ⟨gb194, 1, none⟩ = some (.slice A1_1 l1_1.length c1_1) := (blk_cell BK194.out 1).trans rfl
                    have hfz24_0 := blk_frozen BK194.out 0
                    have hfz24_1 := blk_frozen BK194.out 1
                    have p197 : 0 ≤ (x5_2 : Int) := of_decide_eq_true (by first | (with_reducible assumption) | assumption)
                    have q197 : x5_2 < (l1_1.length : Int) := of_decide_eq_true (by first | (with_reducible assumption) | assumption)
                    obtain ⟨ad197, e197, hx197_0⟩ := Kd.at_int HR1_1.out x5_2 p197 q197
                    cases e197
                    replace hx197_0 := (HB.out.cell (World.block_lt_of_cell? w _ hx197_0)).trans hx197_0
                    replace p197 := eq_true p197
                    replace q197 := eq_true q197
                    go_wp2
                    repeat (go_quiet (fail); try go_wp2)
                    go_ret
                    exact ⟨by first | rfl | (simp [errW_none, errW_some] <;> rfl) | (simp [*, errW_none, errW_some] <;> rfl), by repeat (first | (with_reducible first | exact HB.out | apply below_alloc | apply pw_below_drewN | apply below_drew1 | refine below_set ?_ GE193.out | refine below_set ?_ GE194.out) | exact HB.out)⟩
                · rw [if_neg c17] at H
                  exact absurd H (by simp)
              · rw [if_neg c16] at H
                exact absurd H (by simp)
            · rw [if_neg c15] at H
              have c15b0 : decide (x5_2 < (l0_1.length : Int)) = false := decide_eq_false c15
              clear c15
              obtain rfl := Option.some.inj H
              have hnb25 := NB193_194.out
              have hnc25 := NB194_193.out
              have hcz26_0 : wr.cell? ⟨gb193, 0, none⟩ = some (.slice A0_0 l0_0.length c0_0) := (blk_cell BK193.out 0).trans rfl
              have hcz26_1 : wr.cell? ⟨gb193, 1, none⟩ = some (.slice A0_1 l0_1.length c0_1) := (blk_cell BK193.out 1).trans rfl
              have hfz26_0 := blk_frozen BK193.out 0
              have hfz26_1 := blk_frozen BK193.out 1
              go_wp2
              repeat (go_quiet (fail); try go_wp2)
              go_ret
              exact ⟨by first | rfl | (simp [errW_none, errW_some] <;> rfl) | (simp [*, errW_none, errW_some] <;> rfl), by repeat (first | (with_reducible first | exact HB.out | apply below_alloc | apply pw_below_drewN | apply below_drew1 | refine below_set ?_ GE193.out | refine below_set ?_ GE194.out) | exact HB.out)⟩

/-! ### carousellaw9_great: function 19 -/
def carousellaw9_great.f (l0_0 : List Int) (l0_1 : List Int) (a1 : Int) : Option (Bool) := if (l0_0.length : Int) > 10 then (some true) else (some (decide ((l0_1.length : Int) > a1)))
set_option maxHeartbeats 8000000 in
set_option maxRecDepth 100000 in
theorem carousellaw9_great.calls (A0_0 : Option Addr) (c0_0 : Nat) (l0_0 : List Int) (A0_1 : Option Addr) (c0_1 : Nat) (l0_1 : List Int) (a1 : Int) (r : Bool) (w : World) (hr0_0 : Kd.C (Kd.int .i64) w A0_0 l0_0.length l0_0) (hc0_0 : l0_0.length ≤ c0_0) (hr0_1 : Kd.C (Kd.int .i64) w A0_1 l0_1.length l0_1) (hc0_1 : l0_1.length ≤ c0_1) (h : carousellaw9_great.f l0_0 l0_1 a1 = some r) :
    Calls Try.prog 19 #[.agg #[.slice A0_0 l0_0.length c0_0, .slice A0_1 l0_1.length c0_1], .int .i64 a1] w fun e w' => e = .returned (.bool r) ∧ Below w.heap.size w w' := by
  have hu34 := Try.underlying34
  have HR0_0 := Aside0.mk hr0_0
  have HC0_0 := Aside0.mk hc0_0
  clear hr0_0 hc0_0
  have HR0_1 := Aside0.mk hr0_1
  have HC0_1 := Aside0.mk hc0_1
  clear hr0_1 hc0_1
  have HB := Aside0.mk (Below.refl w.heap.size w)
  have H : (if (l0_0.length : Int) > 10 then (some true) else (some (decide ((l0_1.length : Int) > a1)))) = some r := h
  clear h
  by_cases c3 : (l0_0.length : Int) > 10
  · rw [if_pos c3] at H
    have c3b0 : decide (10 < (l0_0.length : Int)) = true := decide_eq_true c3
    have c3b1 : decide (10 < l0_0.length) = true := decide_eq_true (by omega)
    clear c3
    obtain rfl := Option.some.inj H
    go_enter Try.func19, Try.ntmps19
    go_wp2_with (first | ((with_reducible refine gate_dst (N := 2) rfl ?_); (try (refine gate_guard (by rfl) ?_; dsimp only)); refine box_event ?hg (N := 2) ?hd (cs := #[.slice A0_0 l0_0.length c0_0, .slice A0_1 l0_1.length c0_1]) (t := 34) ?hr ?_; (case hd => rfl); (case hg => rfl); (case hr => first | (go_simp; done) | (go_simp; rfl)); intro gb198 hg w4 hbox hb; have n0_ := Aside0.mk (below_step (by repeat (first | (with_reducible first | exact HB.out | apply below_alloc | apply pw_below_drewN | apply below_drew1) | exact HB.out)) hb); have n1_ := Aside0.mk (hbox); have n2_ := Aside0.mk ((by rw [hg]; exact (below_size (by repeat (first | (with_reducible first | exact HB.out | apply below_alloc | apply pw_below_drewN | apply below_drew1) | exact HB.out))) : w.heap.size ≤ gb198)); have n3_ := Aside0.mk ((by rw [hg]; exact (below_size (by repeat (first | (with_reducible first | exact HB.out | apply below_alloc | apply pw_below_drewN | apply below_drew1) | exact HB.out))) : w.heap.size ≤ gb198)); clear HB; have HB := n0_; have BK198 := n1_; have GW198 := n2_; have GE198 := n3_; clear n0_ n1_ n2_ n3_; clear hb hbox hg; have hcz5_0 : w4.cell? ⟨gb198, 0, none⟩ = some (.slice A0_0 l0_0.length c0_0) := (blk_cell BK198.out 0).trans rfl; have hcz5_1 : w4.cell? ⟨gb198, 1, none⟩ = some (.slice A0_1 l0_1.length c0_1) := (blk_cell BK198.out 1).trans rfl; have hfz5_0 := blk_frozen BK198.out 0; have hfz5_1 := blk_frozen BK198.out 1))
    go_ret
    exact ⟨by first | rfl | (simp [errW_none, errW_some] <;> rfl) | (simp [*, errW_none, errW_some] <;> rfl), by repeat (first | (with_reducible first | exact HB.out | apply below_alloc | apply pw_below_drewN | apply below_drew1 | refine below_set ?_ GE198.out) | exact HB.out)⟩
  · rw [if_neg c3] at H
    have c3b0 : decide (10 < (l0_0.length : Int)) = false := decide_eq_false c3
    have c3b1 : decide (10 < l0_0.length) = false := decide_eq_false (by omega)
    clear c3
    obtain rfl := Option.some.inj H
    go_enter Try.func19, Try.ntmps19
    go_wp2_with (first | ((with_reducible refine gate_dst (N := 2) rfl ?_); (try (refine gate_guard (by rfl) ?_; dsimp only)); refine box_event ?hg (N := 2) ?hd (cs := #[.slice A0_0 l0_0.length c0_0, .slice A0_1 l0_1.length c0_1]) (t := 34) ?hr ?_; (case hd => rfl); (case hg => rfl); (case hr => first | (go_simp; done) | (go_simp; rfl)); intro gb198 hg w6 hbox hb; have n0_ := Aside0.mk (below_step (by repeat (first | (with_reducible first | exact HB.out | apply below_alloc | apply pw_below_drewN | apply below_drew1) | exact HB.out)) hb); have n1_ := Aside0.mk (hbox); have n2_ := Aside0.mk ((by rw [hg]; exact (below_size (by repeat (first | (with_reducible first | exact HB.out | apply below_alloc | apply pw_below_drewN | apply below_drew1) | exact HB.out))) : w.heap.size ≤ gb198)); have n3_ := Aside0.mk ((by rw [hg]; exact (below_size (by repeat (first | (with_reducible first | exact HB.out | apply below_alloc | apply pw_below_drewN | apply below_drew1) | exact HB.out))) : w.heap.size ≤ gb198)); clear HB; have HB := n0_; have BK198 := n1_; have GW198 := n2_; have GE198 := n3_; clear n0_ n1_ n2_ n3_; clear hb hbox hg; have hcz7_0 : w6.cell? ⟨gb198, 0, none⟩ = some (.slice A0_0 l0_0.length c0_0) := (blk_cell BK198.out 0).trans rfl; have hcz7_1 : w6.cell? ⟨gb198, 1, none⟩ = some (.slice A0_1 l0_1.length c0_1) := (blk_cell BK198.out 1).trans rfl; have hfz7_0 := blk_frozen BK198.out 0; have hfz7_1 := blk_frozen BK198.out 1))
    go_ret
    exact ⟨by first | rfl | (simp [errW_none, errW_some] <;> rfl) | (simp [*, errW_none, errW_some] <;> rfl), by repeat (first | (with_reducible first | exact HB.out | apply below_alloc | apply pw_below_drewN | apply below_drew1 | refine below_set ?_ GE198.out) | exact HB.out)⟩

/-! ### carouselref1_Held: function 33 -/
def carouselref1_Held.j0 : Nat → Bool → Bool → Int → Int → Int → Int → Option (Int)
  | 0, _, _, _, _, _, _ => none
  | k + 1, x20, x200000, x200001, x200002, x200003, x200004 => if x20 = true then (if x200000 = true then (some (-9223372036854775808)) else (some 9223372036854775807)) else (if x200000 = true then (some (wrap64 (-(wrap64 (x200001))))) else (some (wrap64 (x200001))))
def carouselref1_Held.f (k : Nat) (a0_0 : Bool) (a0_1 : Int) (a0_2 : Int) (a0_3 : Int) (a0_4 : Int) : Option (Int) := if (Go.bits .or .u64 (Go.bits .or .u64 a0_2 a0_3) a0_4) = 0 then (carouselref1_Held.j0 k (decide (a0_1 ≥ 9223372036854775808)) a0_0 a0_1 a0_2 a0_3 a0_4) else (carouselref1_Held.j0 k true a0_0 a0_1 a0_2 a0_3 a0_4)
theorem carouselref1_Held.mono_l : ∀ k, (∀ y0 y1 y2 y3 y4 y5, LeO (carouselref1_Held.j0 k y0 y1 y2 y3 y4 y5) (carouselref1_Held.j0 (k + 1) y0 y1 y2 y3 y4 y5))
  | 0 => fun _ _ _ _ _ _ r h => by simp [carouselref1_Held.j0] at h
  | k + 1 => by
    have ih0 := carouselref1_Held.mono_l k
    · intro y0 y1 y2 y3 y4 y5
      unfold carouselref1_Held.j0
      repeat' first
      | (with_reducible exact ih0 _ _ _ _ _ _)
      | (with_reducible exact LeO.refl _)
      | (with_reducible exact LeO.none _)
      | (with_reducible refine LeO.ite ?_ ?_)
      | (with_reducible refine LeO.bind ?_ (fun _ => ?_))
      | exact ih0 _ _ _ _ _ _
      | exact LeO.none _
      | refine LeO.ite ?_ ?_
      | refine LeO.bind ?_ (fun _ => ?_)
theorem carouselref1_Held.mono : ∀ a0 a1 a2 a3 a4 k, LeO (carouselref1_Held.f k a0 a1 a2 a3 a4) (carouselref1_Held.f (k + 1) a0 a1 a2 a3 a4) := by
  intro a0 a1 a2 a3 a4 k
  have ih0 := carouselref1_Held.mono_l k
  unfold carouselref1_Held.f
  repeat' first
      | (with_reducible exact ih0 _ _ _ _ _ _)
      | (with_reducible exact LeO.refl _)
      | (with_reducible exact LeO.none _)
      | (with_reducible refine LeO.ite ?_ ?_)
      | (with_reducible refine LeO.bind ?_ (fun _ => ?_))
      | exact ih0 _ _ _ _ _ _
      | exact LeO.none _
      | refine LeO.ite ?_ ?_
      | refine LeO.bind ?_ (fun _ => ?_)
set_option maxHeartbeats 8000000 in
set_option maxRecDepth 100000 in
theorem carouselref1_Held.calls (k : Nat) (a0_0 : Bool) (a0_1 : Int) (a0_2 : Int) (a0_3 : Int) (a0_4 : Int) (r : Int) (w : World) (h : carouselref1_Held.f k a0_0 a0_1 a0_2 a0_3 a0_4 = some r) :
    Calls Try.prog 33 #[.agg #[.bool a0_0, .int .u64 a0_1, .int .u64 a0_2, .int .u64 a0_3, .int .u64 a0_4]] w fun e w' => e = .returned (.int .i64 r) ∧ Below w.heap.size w w' := by
  have hu51 := Try.underlying51
  have HB := Aside0.mk (Below.refl w.heap.size w)
  have H : (if (Go.bits .or .u64 (Go.bits .or .u64 a0_2 a0_3) a0_4) = 0 then (carouselref1_Held.j0 k (decide (a0_1 ≥ 9223372036854775808)) a0_0 a0_1 a0_2 a0_3 a0_4) else (carouselref1_Held.j0 k true a0_0 a0_1 a0_2 a0_3 a0_4)) = some r := h
  clear h
  have HC2 := Aside0.mk H
  clear H
  go_enter Try.func33, Try.ntmps33
  go_upto_region 1 with (first | ((with_reducible refine gate_dst (N := 1) rfl ?_); refine box_event ?hg (N := 1) ?hd (cs := #[.bool a0_0, .int .u64 a0_1, .int .u64 a0_2, .int .u64 a0_3, .int .u64 a0_4]) (t := 51) ?hr ?_; (case hd => rfl); (case hg => rfl); (case hr => first | (go_simp; done) | (go_simp; rfl)); intro gb199 hg w3 hbox hb; have n0_ := Aside0.mk (below_step (by repeat (first | (with_reducible first | exact HB.out | apply below_alloc | apply pw_below_drewN | apply below_drew1) | exact HB.out)) hb); have n1_ := Aside0.mk (hbox); have n2_ := Aside0.mk ((by rw [hg]; exact (below_size (by repeat (first | (with_reducible first | exact HB.out | apply below_alloc | apply pw_below_drewN | apply below_drew1) | exact HB.out))) : w.heap.size ≤ gb199)); have n3_ := Aside0.mk ((by rw [hg]; exact (below_size (by repeat (first | (with_reducible first | exact HB.out | apply below_alloc | apply pw_below_drewN | apply below_drew1) | exact HB.out))) : w.heap.size ≤ gb199)); clear HB; have HB := n0_; have BK199 := n1_; have GW199 := n2_; have GE199 := n3_; clear n0_ n1_ n2_ n3_; clear hb hbox hg))
  (try simp only [Act.put, List.setIfInBounds_toArray, List.set_cons_zero, List.set_cons_succ])
  go_cut [20] (fun v20 wc => ∃ (kq : Nat) (x20_1 : Bool), v20 = .bool x20_1 ∧ Aside0 (carouselref1_Held.j0 kq x20_1 a0_0 a0_1 a0_2 a0_3 a0_4 = some r) ∧ Aside0 (kq ≤ k) ∧ Aside0 (wc.heap[gb199]? = some (.cells #[.bool a0_0, .int .u64 a0_1, .int .u64 a0_2, .int .u64 a0_3, .int .u64 a0_4] 51 (0, 0))) ∧ Aside0 (Below w.heap.size w wc))
  case first =>
    have H := HC2.out
    clear HC2
    by_cases c4 : (Go.bits .or .u64 (Go.bits .or .u64 a0_2 a0_3) a0_4) = 0
    · rw [if_pos c4] at H
      have c4b0 : ((Go.bits .or .u64 (Go.bits .or .u64 a0_2 a0_3) a0_4) == 0) = true := beq_iff_eq.mpr c4
      have c4b1 : ((Go.bits .or .u64 (Go.bits .or .u64 a0_2 a0_3) a0_4) != 0) = false := bne_eq_false_iff_eq.mpr c4
      clear c4
      (first | rw [c4b0] | (simp only [i64_w, i32_w]; rw [c4b0]) | skip)
      have H' := Aside0.mk H
      clear H
      have hcz5_0 : w3.cell? ⟨gb199, 0, none⟩ = some (.bool a0_0) := (blk_cell BK199.out 0).trans rfl
      have hcz5_1 : w3.cell? ⟨gb199, 1, none⟩ = some (.int .u64 a0_1) := (blk_cell BK199.out 1).trans rfl
      have hcz5_2 : w3.cell? ⟨gb199, 2, none⟩ = some (.int .u64 a0_2) := (blk_cell BK199.out 2).trans rfl
      have hcz5_3 : w3.cell? ⟨gb199, 3, none⟩ = some (.int .u64 a0_3) := (blk_cell BK199.out 3).trans rfl
      have hcz5_4 : w3.cell? ⟨gb199, 4, none⟩ = some (.int .u64 a0_4) := (blk_cell BK199.out 4).trans rfl
      have hfz5_0 := blk_frozen BK199.out 0
      have hfz5_1 := blk_frozen BK199.out 1
      have hfz5_2 := blk_frozen BK199.out 2
      have hfz5_3 := blk_frozen BK199.out 3
      have hfz5_4 := blk_frozen BK199.out 4
      go_wp2
      go_meet
      case rel => exact ⟨_, (decide (a0_1 ≥ 9223372036854775808)), (by first | rfl | (simp; done) | (simp [*]; done)), H', ⟨by first | omega | exact Nat.le_refl _⟩, ⟨by (with_reducible repeat (first | refine blk_drewN ?_ _ | refine blk_drew ?_ | refine blk_alloc ?_ _)); exact BK199.out⟩, ⟨by repeat (first | (with_reducible first | exact HB.out | apply below_alloc | apply pw_below_drewN | apply below_drew1 | refine below_set ?_ GE199.out) | exact HB.out)⟩⟩
    · rw [if_neg c4] at H
      have c4b0 : ((Go.bits .or .u64 (Go.bits .or .u64 a0_2 a0_3) a0_4) == 0) = false := beq_eq_false_iff_ne.mpr c4
      have c4b1 : ((Go.bits .or .u64 (Go.bits .or .u64 a0_2 a0_3) a0_4) != 0) = true := bne_iff_ne.mpr c4
      (first | rw [c4b0] | (simp only [i64_w, i32_w]; rw [c4b0]) | skip)
      have H' := Aside0.mk H
      clear H
      have hcz6_0 : w3.cell? ⟨gb199, 0, none⟩ = some (.bool a0_0) := (blk_cell BK199.out 0).trans rfl
      have hcz6_1 : w3.cell? ⟨gb199, 1, none⟩ = some (.int .u64 a0_1) := (blk_cell BK199.out 1).trans rfl
      have hcz6_2 : w3.cell? ⟨gb199, 2, none⟩ = some (.int .u64 a0_2) := (blk_cell BK199.out 2).trans rfl
      have hcz6_3 : w3.cell? ⟨gb199, 3, none⟩ = some (.int .u64 a0_3) := (blk_cell BK199.out 3).trans rfl
      have hcz6_4 : w3.cell? ⟨gb199, 4, none⟩ = some (.int .u64 a0_4) := (blk_cell BK199.out 4).trans rfl
      have hfz6_0 := blk_frozen BK199.out 0
      have hfz6_1 := blk_frozen BK199.out 1
      have hfz6_2 := blk_frozen BK199.out 2
      have hfz6_3 := blk_frozen BK199.out 3
      have hfz6_4 := blk_frozen BK199.out 4
      go_wp2
      go_meet
      case rel => exact ⟨_, (true), (by first | rfl | (simp; done) | (simp [*]; done)), H', ⟨by first | omega | exact Nat.le_refl _⟩, ⟨by (with_reducible repeat (first | refine blk_drewN ?_ _ | refine blk_drew ?_ | refine blk_alloc ?_ _)); exact BK199.out⟩, ⟨by repeat (first | (with_reducible first | exact HB.out | apply below_alloc | apply pw_below_drewN | apply below_drew1 | refine below_set ?_ GE199.out) | exact HB.out)⟩⟩
  case rest =>
    clear HC2
    try clear p2
    try clear c3
    try clear c4
    try clear c4b0
    try clear c4b1
    try clear hcz5_0
    try clear hcz5_1
    try clear hcz5_2
    try clear hcz5_3
    try clear hcz5_4
    try clear hcz6_0
    try clear hcz6_1
    try clear hcz6_2
    try clear hcz6_3
    try clear hcz6_4
    try clear hfz5_0
    try clear hfz5_1
    try clear hfz5_2
    try clear hfz5_3
    try clear hfz5_4
    try clear hfz6_0
    try clear hfz6_1
    try clear hfz6_2
    try clear hfz6_3
    try clear hfz6_4
    obtain ⟨kq, x20_1, rfl, HA, HJ1, BK199, HB⟩ := hcut
    cases kq with
    | zero => exact absurd HA.out (by simp [carouselref1_Held.j0])
    | succ kj1 =>
      have H := HA.out
      clear HA
      simp only [carouselref1_Held.j0] at H
      by_cases c7 : x20_1 = true
      · subst c7
        have H1 : (if a0_0 = true then (some (-9223372036854775808)) else (some 9223372036854775807)) = some r := by rw [if_pos rfl] at H; exact H
        clear H
        have H := H1
        clear H1
        by_cases c8 : a0_0 = true
        · subst c8
          have H1 : (some (-9223372036854775808)) = some r := by rw [if_pos rfl] at H; exact H
          clear H
          have H := H1
          clear H1
          obtain rfl := Option.some.inj H
          have hcz9_0 : wc.cell? ⟨gb199, 0, none⟩ = some (.bool true) := (blk_cell BK199.out 0).trans rfl
          have hcz9_1 : wc.cell? ⟨gb199, 1, none⟩ = some (.int .u64 a0_1) := (blk_cell BK199.out 1).trans rfl
          have hcz9_2 : wc.cell? ⟨gb199, 2, none⟩ = some (.int .u64 a0_2) := (blk_cell BK199.out 2).trans rfl
          have hcz9_3 : wc.cell? ⟨gb199, 3, none⟩ = some (.int .u64 a0_3) := (blk_cell BK199.out 3).trans rfl
          have hcz9_4 : wc.cell? ⟨gb199, 4, none⟩ = some (.int .u64 a0_4) := (blk_cell BK199.out 4).trans rfl
          have hfz9_0 := blk_frozen BK199.out 0
          have hfz9_1 := blk_frozen BK199.out 1
          have hfz9_2 := blk_frozen BK199.out 2
          have hfz9_3 := blk_frozen BK199.out 3
          have hfz9_4 := blk_frozen BK199.out 4
          go_wp2
          go_ret
          exact ⟨by first | rfl | (simp [errW_none, errW_some] <;> rfl) | (simp [*, errW_none, errW_some] <;> rfl), by repeat (first | (with_reducible first | exact HB.out | apply below_alloc | apply pw_below_drewN | apply below_drew1 | refine below_set ?_ GE199.out) | exact HB.out)⟩
        · replace c8 := Bool.eq_false_iff.mpr c8
          subst c8
          have H1 : (some 9223372036854775807) = some r := by rw [if_neg (show ¬ (false = true) by decide)] at H; exact H
          clear H
          have H := H1
          clear H1
          obtain rfl := Option.some.inj H
          have hcz10_0 : wc.cell? ⟨gb199, 0, none⟩ = some (.bool false) := (blk_cell BK199.out 0).trans rfl
          have hcz10_1 : wc.cell? ⟨gb199, 1, none⟩ = some (.int .u64 a0_1) := (blk_cell BK199.out 1).trans rfl
          have hcz10_2 : wc.cell? ⟨gb199, 2, none⟩ = some (.int .u64 a0_2) := (blk_cell BK199.out 2).trans rfl
          have hcz10_3 : wc.cell? ⟨gb199, 3, none⟩ = some (.int .u64 a0_3) := (blk_cell BK199.out 3).trans rfl
          have hcz10_4 : wc.cell? ⟨gb199, 4, none⟩ = some (.int .u64 a0_4) := (blk_cell BK199.out 4).trans rfl
          have hfz10_0 := blk_frozen BK199.out 0
          have hfz10_1 := blk_frozen BK199.out 1
          have hfz10_2 := blk_frozen BK199.out 2
          have hfz10_3 := blk_frozen BK199.out 3
          have hfz10_4 := blk_frozen BK199.out 4
          go_wp2
          go_ret
          exact ⟨by first | rfl | (simp [errW_none, errW_some] <;> rfl) | (simp [*, errW_none, errW_some] <;> rfl), by repeat (first | (with_reducible first | exact HB.out | apply below_alloc | apply pw_below_drewN | apply below_drew1 | refine below_set ?_ GE199.out) | exact HB.out)⟩
      · replace c7 := Bool.eq_false_iff.mpr c7
        subst c7
        have H1 : (if a0_0 = true then (some (wrap64 (-(wrap64 (a0_1))))) else (some (wrap64 (a0_1)))) = some r := by rw [if_neg (show ¬ (false = true) by decide)] at H; exact H
        clear H
        have H := H1
        clear H1
        by_cases c11 : a0_0 = true
        · subst c11
          have H1 : (some (wrap64 (-(wrap64 (a0_1))))) = some r := by rw [if_pos rfl] at H; exact H
          clear H
          have H := H1
          clear H1
          obtain rfl := Option.some.inj H
          have hcz12_0 : wc.cell? ⟨gb199, 0, none⟩ = some (.bool true) := (blk_cell BK199.out 0).trans rfl
          have hcz12_1 : wc.cell? ⟨gb199, 1, none⟩ = some (.int .u64 a0_1) := (blk_cell BK199.out 1).trans rfl
          have hcz12_2 : wc.cell? ⟨gb199, 2, none⟩ = some (.int .u64 a0_2) := (blk_cell BK199.out 2).trans rfl
          have hcz12_3 : wc.cell? ⟨gb199, 3, none⟩ = some (.int .u64 a0_3) := (blk_cell BK199.out 3).trans rfl
          have hcz12_4 : wc.cell? ⟨gb199, 4, none⟩ = some (.int .u64 a0_4) := (blk_cell BK199.out 4).trans rfl
          have hfz12_0 := blk_frozen BK199.out 0
          have hfz12_1 := blk_frozen BK199.out 1
          have hfz12_2 := blk_frozen BK199.out 2
          have hfz12_3 := blk_frozen BK199.out 3
          have hfz12_4 := blk_frozen BK199.out 4
          go_wp2
          go_ret
          exact ⟨by first | rfl | (simp [errW_none, errW_some] <;> rfl) | (simp [*, errW_none, errW_some] <;> rfl), by repeat (first | (with_reducible first | exact HB.out | apply below_alloc | apply pw_below_drewN | apply below_drew1 | refine below_set ?_ GE199.out) | exact HB.out)⟩
        · replace c11 := Bool.eq_false_iff.mpr c11
          subst c11
          have H1 : (some (wrap64 (a0_1))) = some r := by rw [if_neg (show ¬ (false = true) by decide)] at H; exact H
          clear H
          have H := H1
          clear H1
          obtain rfl := Option.some.inj H
          have hcz13_0 : wc.cell? ⟨gb199, 0, none⟩ = some (.bool false) := (blk_cell BK199.out 0).trans rfl
          have hcz13_1 : wc.cell? ⟨gb199, 1, none⟩ = some (.int .u64 a0_1) := (blk_cell BK199.out 1).trans rfl
          have hcz13_2 : wc.cell? ⟨gb199, 2, none⟩ = some (.int .u64 a0_2) := (blk_cell BK199.out 2).trans rfl
          have hcz13_3 : wc.cell? ⟨gb199, 3, none⟩ = some (.int .u64 a0_3) := (blk_cell BK199.out 3).trans rfl
          have hcz13_4 : wc.cell? ⟨gb199, 4, none⟩ = some (.int .u64 a0_4) := (blk_cell BK199.out 4).trans rfl
          have hfz13_0 := blk_frozen BK199.out 0
          have hfz13_1 := blk_frozen BK199.out 1
          have hfz13_2 := blk_frozen BK199.out 2
          have hfz13_3 := blk_frozen BK199.out 3
          have hfz13_4 := blk_frozen BK199.out 4
          go_wp2
          go_ret
          exact ⟨by first | rfl | (simp [errW_none, errW_some] <;> rfl) | (simp [*, errW_none, errW_some] <;> rfl), by repeat (first | (with_reducible first | exact HB.out | apply below_alloc | apply pw_below_drewN | apply below_drew1 | refine below_set ?_ GE199.out) | exact HB.out)⟩

/-! ### carouselref1_byNought: function 48 -/
def carouselref1_byNought.f (a0 : Bool) (a1 : Bool) : Option (Int) := if a1 = true then (some 0) else (if a0 = true then (some (-9223372036854775808)) else (some 9223372036854775807))
set_option maxHeartbeats 8000000 in
set_option maxRecDepth 100000 in
theorem carouselref1_byNought.calls (a0 : Bool) (a1 : Bool) (r : Int) (w : World) (h : carouselref1_byNought.f a0 a1 = some r) :
    Calls Try.prog 48 #[.bool a0, .bool a1] w fun e w' => e = .returned (.int .i64 r) ∧ Drawn0 w w' := by
  have H : (if a1 = true then (some 0) else (if a0 = true then (some (-9223372036854775808)) else (some 9223372036854775807))) = some r := h
  clear h
  by_cases c3 : a1 = true
  · subst c3
    have H1 : (some 0) = some r := by rw [if_pos rfl] at H; exact H
    clear H
    have H := H1
    clear H1
    obtain rfl := Option.some.inj H
    go_enter Try.func48, Try.ntmps48
    go_wp2
    go_ret
    exact ⟨by first | rfl | (simp; done) | (simp [*]; done), by repeat (first | exact Drawn0.refl _ | apply Drawn0.step)⟩
  · replace c3 := Bool.eq_false_iff.mpr c3
    subst c3
    have H1 : (if a0 = true then (some (-9223372036854775808)) else (some 9223372036854775807)) = some r := by rw [if_neg (show ¬ (false = true) by decide)] at H; exact H
    clear H
    have H := H1
    clear H1
    by_cases c4 : a0 = true
    · subst c4
      have H1 : (some (-9223372036854775808)) = some r := by rw [if_pos rfl] at H; exact H
      clear H
      have H := H1
      clear H1
      obtain rfl := Option.some.inj H
      go_enter Try.func48, Try.ntmps48
      go_wp2
      go_ret
      exact ⟨by first | rfl | (simp; done) | (simp [*]; done), by repeat (first | exact Drawn0.refl _ | apply Drawn0.step)⟩
    · replace c4 := Bool.eq_false_iff.mpr c4
      subst c4
      have H1 : (some 9223372036854775807) = some r := by rw [if_neg (show ¬ (false = true) by decide)] at H; exact H
      clear H
      have H := H1
      clear H1
      obtain rfl := Option.some.inj H
      go_enter Try.func48, Try.ntmps48
      go_wp2
      go_ret
      exact ⟨by first | rfl | (simp; done) | (simp [*]; done), by repeat (first | exact Drawn0.refl _ | apply Drawn0.step)⟩

/-! ### carouselref1_bit: function 54 -/
def carouselref1_bit.w (a0 a1 a2 a3 j : Int) : Int := if j = 0 then a0 else if j = 1 then a1 else if j = 2 then a2 else a3
def carouselref1_bit.f (a0_0 : Int) (a0_1 : Int) (a0_2 : Int) (a0_3 : Int) (a1 : Int) : Option (Int) := if 0 ≤ a1 ∧ a1 < 256 then some (Go.bits .and .u64 (carouselref1_bit.w a0_0 a0_1 a0_2 a0_3 (a1 / 64) / 2 ^ (a1 % 64).toNat) 1) else none
set_option maxHeartbeats 8000000 in
set_option maxRecDepth 100000 in
theorem carouselref1_bit.calls (a0_0 : Int) (a0_1 : Int) (a0_2 : Int) (a0_3 : Int) (a1 : Int) (r : Int) (w : World) (h : carouselref1_bit.f a0_0 a0_1 a0_2 a0_3 a1 = some r) :
    Calls Try.prog 54 #[.agg #[.int .u64 a0_0, .int .u64 a0_1, .int .u64 a0_2, .int .u64 a0_3], .int .i64 a1] w fun e w' => e = .returned (.int .u64 r) ∧ Below w.heap.size w w' := by
  unfold carouselref1_bit.f at h
  by_cases hc : 0 ≤ a1 ∧ a1 < 256
  case neg => rw [if_neg hc] at h; cases h
  rw [if_pos hc] at h
  have H := Aside0.mk (Option.some.inj h)
  clear h
  have HB := Aside0.mk (Below.refl w.heap.size w)
  have hu49 := Try.underlying49
  obtain ⟨s, hs⟩ : ∃ s, s = a1 % 64 := ⟨_, rfl⟩
  have h0 : 0 ≤ s := by omega
  have h1 : s < 64 := by omega
  have e2 : a1.tmod 64 = s := by rw [Int.tmod_eq_emod_of_nonneg (by omega)]; omega
  rw [← hs] at H
  by_cases c0 : a1 / 64 = 0
  case pos =>
    have e1 : a1.tdiv 64 = 0 := by rw [Int.tdiv_eq_ediv_of_nonneg (by omega)]; omega
    have H2 := H.out
    rw [c0] at H2
    have H3 := Aside0.mk H2
    clear H2 H hc hs
    clear c0
    go_enter Try.func54, Try.ntmps54
    go_wp2
    go_ret
    refine ⟨?_, by repeat (first | (with_reducible first | exact HB.out | apply below_alloc | apply pw_below_drewN | apply below_drew1) | exact HB.out)⟩
    rw [← H3.out]
    rfl
  case neg =>
    by_cases c1 : a1 / 64 = 1
    case pos =>
      have e1 : a1.tdiv 64 = 1 := by rw [Int.tdiv_eq_ediv_of_nonneg (by omega)]; omega
      have H2 := H.out
      rw [c1] at H2
      have H3 := Aside0.mk H2
      clear H2 H hc hs
      clear c0 c1
      go_enter Try.func54, Try.ntmps54
      go_wp2
      go_ret
      refine ⟨?_, by repeat (first | (with_reducible first | exact HB.out | apply below_alloc | apply pw_below_drewN | apply below_drew1) | exact HB.out)⟩
      rw [← H3.out]
      rfl
    case neg =>
      by_cases c2 : a1 / 64 = 2
      case pos =>
        have e1 : a1.tdiv 64 = 2 := by rw [Int.tdiv_eq_ediv_of_nonneg (by omega)]; omega
        have H2 := H.out
        rw [c2] at H2
        have H3 := Aside0.mk H2
        clear H2 H hc hs
        clear c0 c1 c2
        go_enter Try.func54, Try.ntmps54
        go_wp2
        go_ret
        refine ⟨?_, by repeat (first | (with_reducible first | exact HB.out | apply below_alloc | apply pw_below_drewN | apply below_drew1) | exact HB.out)⟩
        rw [← H3.out]
        rfl
      case neg =>
        have c3 : a1 / 64 = 3 := by omega
        have e1 : a1.tdiv 64 = 3 := by rw [Int.tdiv_eq_ediv_of_nonneg (by omega)]; omega
        have H2 := H.out
        rw [c3] at H2
        have H3 := Aside0.mk H2
        clear H2 H hc hs
        clear c0 c1 c2 c3
        go_enter Try.func54, Try.ntmps54
        go_wp2
        go_ret
        refine ⟨?_, by repeat (first | (with_reducible first | exact HB.out | apply below_alloc | apply pw_below_drewN | apply below_drew1) | exact HB.out)⟩
        rw [← H3.out]
        rfl

/-! ### carouselref1_plus: function 55 -/
/-! ### words for arrays of four cells that lie in memory -/
theorem set_last_ (W : World) (cs : Array Value) (t : TypeId) (n off B : Nat) (v : Value) (hB : B = W.heap.size) : ((W.alloc (.cells cs t)).drewN n).setCell ⟨B, off, none⟩ v = (W.alloc (.cells (cs.setIfInBounds off v) t)).drewN n := by
  subst hB
  unfold World.alloc World.drewN World.setCell
  simp only [World.mk.injEq, and_true]
  apply Array.ext
  · simp
  · intro i h1 h2
    simp at h1 h2
    by_cases c : i = W.heap.size
    · subst c
      simp [Array.getElem_modify, Array.getElem_push]
    · have h3 : i < W.heap.size := by omega
      simp [Array.getElem_modify, Array.getElem_push, Ne.symm c, h3]
theorem set_last3_ (w : World) (o1 o2 o3 : Obj) (cs : Array Value) (t : TypeId) (n off : Nat) (v : Value) : (((((w.alloc o1).alloc o2).alloc o3).alloc (.cells cs t)).drewN n).setCell ⟨w.heap.size + 1 + 1 + 1, off, none⟩ v = ((((w.alloc o1).alloc o2).alloc o3).alloc (.cells (cs.setIfInBounds off v) t)).drewN n :=
  set_last_ _ cs t n off _ v (by simp only [World.alloc, Array.size_push])
theorem set_last4_ (w : World) (o1 o2 o3 : Obj) (cs : Array Value) (t : TypeId) (n m off : Nat) (v : Value) : ((((((w.alloc o1).alloc o2).alloc o3).alloc (.cells cs t)).drewN n).setCell ⟨w.heap.size + 1 + 1 + 1, off, none⟩ v).drewN m = ((((w.alloc o1).alloc o2).alloc o3).alloc (.cells (cs.setIfInBounds off v) t)).drewN (n + m) := by
  rw [set_last3_]
  simp only [World.drewN, Nat.add_assoc]
theorem end4_ (w : World) (o1 o2 o4 : Obj) (t : TypeId) (n : Nat) (z0 z1 z2 z3 v0 v1 v2 v3 : Value) :
    ((((((((((w.alloc o1).alloc o2).alloc (.cells #[z0, z1, z2, z3] t)).alloc o4).drewN n).setCell ⟨w.heap.size + 1 + 1, 0, none⟩ v0).setCell ⟨w.heap.size + 1 + 1, 1, none⟩ v1).setCell ⟨w.heap.size + 1 + 1, 2, none⟩ v2).setCell ⟨w.heap.size + 1 + 1, 3, none⟩ v3).heap[w.heap.size + 1 + 1]? = some (.cells #[v0, v1, v2, v3] t (0, 0))) ∧
    Below w.heap.size w (((((((((w.alloc o1).alloc o2).alloc (.cells #[z0, z1, z2, z3] t)).alloc o4).drewN n).setCell ⟨w.heap.size + 1 + 1, 0, none⟩ v0).setCell ⟨w.heap.size + 1 + 1, 1, none⟩ v1).setCell ⟨w.heap.size + 1 + 1, 2, none⟩ v2).setCell ⟨w.heap.size + 1 + 1, 3, none⟩ v3) := by
  have s2 : ((w.alloc o1).alloc o2).heap.size = w.heap.size + 1 + 1 := by simp only [World.alloc, Array.size_push]
  have s3 : (((w.alloc o1).alloc o2).alloc (.cells #[z0, z1, z2, z3] t)).heap.size = w.heap.size + 1 + 1 + 1 := by simp only [World.alloc, Array.size_push]
  have b := blk_new ((w.alloc o1).alloc o2) (.cells #[z0, z1, z2, z3] t (0, 0))
  rw [s2] at b
  constructor
  · exact blk_put (cs := #[v0, v1, v2, z3]) (blk_put (cs := #[v0, v1, z2, z3]) (blk_put (cs := #[v0, z1, z2, z3]) (blk_put (cs := #[z0, z1, z2, z3]) (blk_drewN (blk_alloc b _) _) 0 _ rfl) 1 _ rfl) 2 _ rfl) 3 _ rfl
  · have h1 := (Below.refl w.heap.size w).alloc (Nat.le_refl _) o1
    have h2 := h1.alloc (by simp only [World.alloc, Array.size_push]; omega) o2
    have h3 := h2.alloc (by rw [s2]; omega) (.cells #[z0, z1, z2, z3] t (0, 0))
    have h4 := h3.alloc (by rw [s3]; omega) o4
    have h5 : Below w.heap.size w (((((w.alloc o1).alloc o2).alloc (.cells #[z0, z1, z2, z3] t (0, 0))).alloc o4).drewN n) := ⟨h4.os, h4.tape, h4.output, h4.size, h4.block⟩
    exact (((h5.setCell (by show w.heap.size ≤ w.heap.size + 1 + 1; omega) _).setCell (by show w.heap.size ≤ w.heap.size + 1 + 1; omega) _).setCell (by show w.heap.size ≤ w.heap.size + 1 + 1; omega) _).setCell (by show w.heap.size ≤ w.heap.size + 1 + 1; omega) _
def carouselref1_plus.s (a b c : Int) : Int := IntKind.u64.wrap (IntKind.u64.wrap (a + b) + c)
def carouselref1_plus.c (a b c : Int) : Int := if IntKind.u64.wrap (a + b) < a then 1 else if carouselref1_plus.s a b c < IntKind.u64.wrap (a + b) then 1 else 0
theorem carouselref1_plus.s_z (a b : Int) : IntKind.u64.wrap (IntKind.u64.wrap (a + b)) = carouselref1_plus.s a b 0 := by unfold carouselref1_plus.s; rw [Int.add_zero]
theorem carouselref1_plus.c_pos (a b c : Int) (h : IntKind.u64.wrap (a + b) < a) : 1 = carouselref1_plus.c a b c := by unfold carouselref1_plus.c; rw [if_pos h]
theorem carouselref1_plus.c_mid (a b c : Int) (h1 : a ≤ IntKind.u64.wrap (a + b)) (h : IntKind.u64.wrap (a + b) < a ∨ IntKind.u64.wrap (IntKind.u64.wrap (a + b) + c) < IntKind.u64.wrap (a + b)) : 1 = carouselref1_plus.c a b c := by
  unfold carouselref1_plus.c carouselref1_plus.s; rw [if_neg (by omega), if_pos (by omega)]
theorem carouselref1_plus.c_neg (a b c : Int) (h1 : a ≤ IntKind.u64.wrap (a + b)) (h2 : a ≤ IntKind.u64.wrap (a + b) ∧ IntKind.u64.wrap (a + b) ≤ IntKind.u64.wrap (IntKind.u64.wrap (a + b) + c)) : 0 = carouselref1_plus.c a b c := by unfold carouselref1_plus.c carouselref1_plus.s; rw [if_neg (by omega), if_neg (by omega)]
theorem carouselref1_plus.c_posz (a b : Int) (h : IntKind.u64.wrap (a + b) < a) : 1 = carouselref1_plus.c a b 0 := carouselref1_plus.c_pos a b 0 h
theorem carouselref1_plus.c_midz (a b : Int) (h1 : a ≤ IntKind.u64.wrap (a + b)) (h : IntKind.u64.wrap (a + b) < a ∨ IntKind.u64.wrap (IntKind.u64.wrap (a + b)) < IntKind.u64.wrap (a + b)) : 1 = carouselref1_plus.c a b 0 := carouselref1_plus.c_mid a b 0 h1 (by rw [Int.add_zero]; exact h)
theorem carouselref1_plus.c_negz (a b : Int) (h1 : a ≤ IntKind.u64.wrap (a + b)) (h2 : a ≤ IntKind.u64.wrap (a + b) ∧ IntKind.u64.wrap (a + b) ≤ IntKind.u64.wrap (IntKind.u64.wrap (a + b))) : 0 = carouselref1_plus.c a b 0 := carouselref1_plus.c_neg a b 0 h1 (by rw [Int.add_zero]; exact h2)
def carouselref1_plus.f (a0_0 : Int) (a0_1 : Int) (a0_2 : Int) (a0_3 : Int) (a1_0 : Int) (a1_1 : Int) (a1_2 : Int) (a1_3 : Int) : Option (Int × Int × Int × Int) := some (carouselref1_plus.s a0_0 a1_0 0, carouselref1_plus.s a0_1 a1_1 (carouselref1_plus.c a0_0 a1_0 0), carouselref1_plus.s a0_2 a1_2 (carouselref1_plus.c a0_1 a1_1 (carouselref1_plus.c a0_0 a1_0 0)), carouselref1_plus.s a0_3 a1_3 (carouselref1_plus.c a0_2 a1_2 (carouselref1_plus.c a0_1 a1_1 (carouselref1_plus.c a0_0 a1_0 0))))
set_option maxHeartbeats 8000000 in
set_option maxRecDepth 100000 in
theorem carouselref1_plus.calls (a0_0 : Int) (a0_1 : Int) (a0_2 : Int) (a0_3 : Int) (a1_0 : Int) (a1_1 : Int) (a1_2 : Int) (a1_3 : Int) (r1 : Int) (r2 : Int) (r3 : Int) (r4 : Int) (w : World) (h : carouselref1_plus.f a0_0 a0_1 a0_2 a0_3 a1_0 a1_1 a1_2 a1_3 = some (r1, r2, r3, r4)) :
    Calls Try.prog 55 #[.agg #[.int .u64 a0_0, .int .u64 a0_1, .int .u64 a0_2, .int .u64 a0_3], .agg #[.int .u64 a1_0, .int .u64 a1_1, .int .u64 a1_2, .int .u64 a1_3]] w fun e w' => e = .returned (.agg #[.int .u64 r1, .int .u64 r2, .int .u64 r3, .int .u64 r4]) ∧ Below w.heap.size w w' := by
  unfold carouselref1_plus.f at h
  have H0 := Aside0.mk h
  clear h
  have hu49 := Try.underlying49
  go_enter Try.func55, Try.ntmps55
  go_wp2
  refine wp_loop_rounds 5 ?_
  rw [rounds_succ]
  go_upto_block 1 with (fail)
  go_cut [6] (fun v6 wc => ∃ (n : Nat) (k0 t0 : Int), v6 = .int .u64 k0 ∧ Aside0 (k0 = carouselref1_plus.c a0_0 a1_0 0) ∧ Aside0 (t0 = carouselref1_plus.s a0_0 a1_0 0) ∧ wc = (((((w.alloc (.cells #[.int .u64 a0_0, .int .u64 a0_1, .int .u64 a0_2, .int .u64 a0_3] 49)).alloc (.cells #[.int .u64 a1_0, .int .u64 a1_1, .int .u64 a1_2, .int .u64 a1_3] 49)).alloc (.cells #[.int .u64 0, .int .u64 0, .int .u64 0, .int .u64 0] 49)).alloc (.cells #[.int .u64 t0, .int .u64 0, .int .u64 0, .int .u64 0] 49))).drewN n)
  case first =>
    go_wp2
    go_quiet (fail)
    go_wp2
    all_goals go_meet
    all_goals first | exact ⟨_, _, _, rfl, ⟨carouselref1_plus.c_posz a0_0 a1_0 (by assumption)⟩, ⟨carouselref1_plus.s_z a0_0 a1_0⟩, set_last3_ _ _ _ _ _ _ _ _ _⟩ | exact ⟨_, _, _, rfl, ⟨carouselref1_plus.c_midz a0_0 a1_0 (by assumption) (by assumption)⟩, ⟨carouselref1_plus.s_z a0_0 a1_0⟩, set_last3_ _ _ _ _ _ _ _ _ _⟩ | exact ⟨_, _, _, rfl, ⟨carouselref1_plus.c_negz a0_0 a1_0 (by assumption) (by assumption)⟩, ⟨carouselref1_plus.s_z a0_0 a1_0⟩, set_last3_ _ _ _ _ _ _ _ _ _⟩
  case rest =>
    obtain ⟨n0, k0, t0, rfl, K0, T0, rfl⟩ := hcut
    go_wp2
    rw [rounds_succ]
    go_upto_block 1 with (fail)
    go_cut [6] (fun v6 wc => ∃ (n : Nat) (k1 t1 : Int), v6 = .int .u64 k1 ∧ Aside0 (k1 = carouselref1_plus.c a0_1 a1_1 k0) ∧ Aside0 (t1 = carouselref1_plus.s a0_1 a1_1 k0) ∧ wc = (((((w.alloc (.cells #[.int .u64 a0_0, .int .u64 a0_1, .int .u64 a0_2, .int .u64 a0_3] 49)).alloc (.cells #[.int .u64 a1_0, .int .u64 a1_1, .int .u64 a1_2, .int .u64 a1_3] 49)).alloc (.cells #[.int .u64 0, .int .u64 0, .int .u64 0, .int .u64 0] 49)).alloc (.cells #[.int .u64 t0, .int .u64 t1, .int .u64 0, .int .u64 0] 49))).drewN n)
    case first =>
      go_wp2
      go_quiet (fail)
      go_wp2
      all_goals go_meet
      all_goals first | exact ⟨_, _, _, rfl, ⟨carouselref1_plus.c_pos a0_1 a1_1 k0 (by assumption)⟩, ⟨rfl⟩, set_last3_ _ _ _ _ _ _ _ _ _⟩ | exact ⟨_, _, _, rfl, ⟨carouselref1_plus.c_mid a0_1 a1_1 k0 (by assumption) (by assumption)⟩, ⟨rfl⟩, set_last3_ _ _ _ _ _ _ _ _ _⟩ | exact ⟨_, _, _, rfl, ⟨carouselref1_plus.c_neg a0_1 a1_1 k0 (by assumption) (by assumption)⟩, ⟨rfl⟩, set_last3_ _ _ _ _ _ _ _ _ _⟩
    case rest =>
      obtain ⟨n1, k1, t1, rfl, K1, T1, rfl⟩ := hcut
      go_wp2
      rw [rounds_succ]
      go_upto_block 1 with (fail)
      go_cut [6] (fun v6 wc => ∃ (n : Nat) (k2 t2 : Int), v6 = .int .u64 k2 ∧ Aside0 (k2 = carouselref1_plus.c a0_2 a1_2 k1) ∧ Aside0 (t2 = carouselref1_plus.s a0_2 a1_2 k1) ∧ wc = (((((w.alloc (.cells #[.int .u64 a0_0, .int .u64 a0_1, .int .u64 a0_2, .int .u64 a0_3] 49)).alloc (.cells #[.int .u64 a1_0, .int .u64 a1_1, .int .u64 a1_2, .int .u64 a1_3] 49)).alloc (.cells #[.int .u64 0, .int .u64 0, .int .u64 0, .int .u64 0] 49)).alloc (.cells #[.int .u64 t0, .int .u64 t1, .int .u64 t2, .int .u64 0] 49))).drewN n)
      case first =>
        go_wp2
        go_quiet (fail)
        go_wp2
        all_goals go_meet
        all_goals first | exact ⟨_, _, _, rfl, ⟨carouselref1_plus.c_pos a0_2 a1_2 k1 (by assumption)⟩, ⟨rfl⟩, set_last3_ _ _ _ _ _ _ _ _ _⟩ | exact ⟨_, _, _, rfl, ⟨carouselref1_plus.c_mid a0_2 a1_2 k1 (by assumption) (by assumption)⟩, ⟨rfl⟩, set_last3_ _ _ _ _ _ _ _ _ _⟩ | exact ⟨_, _, _, rfl, ⟨carouselref1_plus.c_neg a0_2 a1_2 k1 (by assumption) (by assumption)⟩, ⟨rfl⟩, set_last3_ _ _ _ _ _ _ _ _ _⟩
      case rest =>
        obtain ⟨n2, k2, t2, rfl, K2, T2, rfl⟩ := hcut
        go_wp2
        rw [rounds_succ]
        go_upto_block 1 with (fail)
        go_cut [6] (fun v6 wc => ∃ (n : Nat) (k3 t3 : Int), v6 = .int .u64 k3 ∧ Aside0 (k3 = carouselref1_plus.c a0_3 a1_3 k2) ∧ Aside0 (t3 = carouselref1_plus.s a0_3 a1_3 k2) ∧ wc = (((((w.alloc (.cells #[.int .u64 a0_0, .int .u64 a0_1, .int .u64 a0_2, .int .u64 a0_3] 49)).alloc (.cells #[.int .u64 a1_0, .int .u64 a1_1, .int .u64 a1_2, .int .u64 a1_3] 49)).alloc (.cells #[.int .u64 0, .int .u64 0, .int .u64 0, .int .u64 0] 49)).alloc (.cells #[.int .u64 t0, .int .u64 t1, .int .u64 t2, .int .u64 t3] 49))).drewN n)
        case first =>
          go_wp2
          go_quiet (fail)
          go_wp2
          all_goals go_meet
          all_goals first | exact ⟨_, _, _, rfl, ⟨carouselref1_plus.c_pos a0_3 a1_3 k2 (by assumption)⟩, ⟨rfl⟩, set_last3_ _ _ _ _ _ _ _ _ _⟩ | exact ⟨_, _, _, rfl, ⟨carouselref1_plus.c_mid a0_3 a1_3 k2 (by assumption) (by assumption)⟩, ⟨rfl⟩, set_last3_ _ _ _ _ _ _ _ _ _⟩ | exact ⟨_, _, _, rfl, ⟨carouselref1_plus.c_neg a0_3 a1_3 k2 (by assumption) (by assumption)⟩, ⟨rfl⟩, set_last3_ _ _ _ _ _ _ _ _ _⟩
        case rest =>
          obtain ⟨n3, k3, t3, rfl, K3, T3, rfl⟩ := hcut
          go_wp2
          rw [rounds_succ]
          go_wp2
          have E := end4_ w (.cells #[.int .u64 a0_0, .int .u64 a0_1, .int .u64 a0_2, .int .u64 a0_3] 49) (.cells #[.int .u64 a1_0, .int .u64 a1_1, .int .u64 a1_2, .int .u64 a1_3] 49) (.cells #[.int .u64 t0, .int .u64 t1, .int .u64 t2, .int .u64 t3] 49) 49 n3 (.int .u64 0) (.int .u64 0) (.int .u64 0) (.int .u64 0) (.int .u64 t0) (.int .u64 t1) (.int .u64 t2) (.int .u64 t3)
          refine bodyPost_ret (results_cell_row rfl _ _ (w.heap.size + 1 + 1) 49 #[.int .u64 t0, .int .u64 t1, .int .u64 t2, .int .u64 t3] (0, 0) _ rfl E.1 hu49 rfl (by kernel_rfl)) rfl ⟨?_, E.2⟩
          have H := H0.out
          simp only [Option.some.injEq, Prod.mk.injEq] at H
          obtain ⟨rfl, rfl, rfl, rfl⟩ := H
          rw [T0.out, T1.out, T2.out, T3.out, K2.out, K1.out, K0.out]

/-! ### carouselref1_size: function 56 -/
def carouselref1_size.f (a0 : Int) : Option (Int) := if a0 < 0 then (some (IntKind.u64.wrap ((IntKind.u64.wrap (wrap64 (-(wrap64 (a0 + 1))))) + 1))) else (some (IntKind.u64.wrap (a0)))
set_option maxHeartbeats 8000000 in
set_option maxRecDepth 100000 in
theorem carouselref1_size.calls (a0 : Int) (r : Int) (w : World) (h : carouselref1_size.f a0 = some r) :
    Calls Try.prog 56 #[.int .i64 a0] w fun e w' => e = .returned (.int .u64 r) ∧ Drawn0 w w' := by
  have H : (if a0 < 0 then (some (IntKind.u64.wrap ((IntKind.u64.wrap (wrap64 (-(wrap64 (a0 + 1))))) + 1))) else (some (IntKind.u64.wrap (a0)))) = some r := h
  clear h
  by_cases c2 : a0 < 0
  · rw [if_pos c2] at H
    have c2b0 : decide (a0 < 0) = true := decide_eq_true c2
    clear c2
    obtain rfl := Option.some.inj H
    go_enter Try.func56, Try.ntmps56
    go_wp2
    go_ret
    exact ⟨by first | rfl | (simp; done) | (simp [*]; done), by repeat (first | exact Drawn0.refl _ | apply Drawn0.step)⟩
  · rw [if_neg c2] at H
    have c2b0 : decide (a0 < 0) = false := decide_eq_false c2
    clear c2
    obtain rfl := Option.some.inj H
    go_enter Try.func56, Try.ntmps56
    go_wp2
    go_ret
    exact ⟨by first | rfl | (simp; done) | (simp [*]; done), by repeat (first | exact Drawn0.refl _ | apply Drawn0.step)⟩

end Go.Proofs.Ytdamllanlligbaa.PActAll
