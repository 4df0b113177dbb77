/- The functions that the law OptAlone reaches, as Lean functions, and that each call of the Go function does what its Lean function says, wherever that one answers. Written by a program of mine over the print of the kit; Lean checks it. -/
import Derived.Test.YtaanhfcioemekaaPOptAlonex0
import Derived.Test.YtaanhfcioemekaaPOptAlonex6
import Derived.Test.YtaanhfcioemekaaPOptAlonex7
namespace Go.Proofs.Ytaanhfcioemekaa.POptAlone
open Go.RowKit Go.Proofs.YtaanhfcioemekaaW.PrintWords Go.Proofs.YtaanhfcioemekaaW.PrintLast Go.Proofs.YtaanhfcioemekaaW.PrintMore
attribute [local go_sem] max2_int min2_int max_two min_two max_three min_three max_four min_four   -- for this text's walks alone
set_option linter.unusedVariables false
set_option linter.unusedSimpArgs false

/-! ### carousellaw15_OptAlone: function 7 -/
def carousellaw15_OptAlone.j0 : Nat → List Int → List Int → List (S30) → Int → Bool → Int → Int → Int → Option (Bool)
 | 0, _, _, _, _, _, _, _, _ => none
 | k + 1, x0, x1, x2, x3, x48, x218000, x218001, x218002 => if x48 = true then (some true) else ((opt_Apply.f k x0 x1 x2 3 x218000 x218001 x218002).bind fun bt219 => (if 0 ≤ x3 then (if x3 ≤ (wrap64 (x3 + 1)) then (if (wrap64 (x3 + 1)) ≤ (x0.length : Int) then (if (wrap64 (x3 + 1)) ≤ (x1.length : Int) then (if (wrap64 (x3 + 1)) ≤ (x2.length : Int) then ((opt_Apply.f k ((x0.take ((wrap64 (x3 + 1)) : Int).toNat).drop (x3 : Int).toNat) ((x1.take ((wrap64 (x3 + 1)) : Int).toNat).drop (x3 : Int).toNat) ((x2.take ((wrap64 (x3 + 1)) : Int).toNat).drop (x3 : Int).toNat) 3 x218000 x218001 x218002).bind fun bt233 => (if bt219.2.2 = 0 then (if bt233.2.2 = 0 then (if x3 < (bt219.1.length : Int) then (if 0 < (bt233.1.length : Int) then (if (rd bt219.1 x3) = (rd bt233.1 0) then (if x3 < (bt219.2.1.length : Int) then (if 0 < (bt233.2.1.length : Int) then (some ((rd bt219.2.1 x3) == (rd bt233.2.1 0))) else (none)) else (none)) else (none)) else (none)) else (none)) else (none)) else (none))) else (none)) else (none)) else (none)) else (none)) else (none)))
def carousellaw15_OptAlone.f (k : Nat) (l0 : List Int) (l1 : List Int) (l2 : List (S30)) (a3 : Int) (a4_0 : Int) (a4_1 : Int) (a4_2 : Int) : Option (Bool) := (carousellaw15_awake.f k).bind fun t218 => (if t218 = true then (if (l0.length : Int) > 40 then (carousellaw15_OptAlone.j0 k l0 l1 l2 a3 true a4_0 a4_1 a4_2) else (if (l1.length : Int) = (l0.length : Int) then (if (l2.length : Int) = (l0.length : Int) then (if a3 < 0 then (carousellaw15_OptAlone.j0 k l0 l1 l2 a3 true a4_0 a4_1 a4_2) else (if a3 ≥ (l0.length : Int) then (carousellaw15_OptAlone.j0 k l0 l1 l2 a3 true a4_0 a4_1 a4_2) else (carousellaw15_OptAlone.j0 k l0 l1 l2 a3 (decide (a4_2 < 0)) a4_0 a4_1 a4_2))) else (carousellaw15_OptAlone.j0 k l0 l1 l2 a3 true a4_0 a4_1 a4_2)) else (carousellaw15_OptAlone.j0 k l0 l1 l2 a3 true a4_0 a4_1 a4_2))) else (none))
theorem carousellaw15_OptAlone.mono_l : ∀ k, (∀ y0 y1 y2 y3 y4 y5 y6 y7, LeO (carousellaw15_OptAlone.j0 k y0 y1 y2 y3 y4 y5 y6 y7) (carousellaw15_OptAlone.j0 (k + 1) y0 y1 y2 y3 y4 y5 y6 y7))
 | 0 => fun _ _ _ _ _ _ _ _ r h => by simp [carousellaw15_OptAlone.j0] at h
 | k + 1 => by
  have ih0 := carousellaw15_OptAlone.mono_l k
  ·intro y0 y1 y2 y3 y4 y5 y6 y7
   unfold carousellaw15_OptAlone.j0
   repeat' first
   | (with_reducible exact ih0 _ _ _ _ _ _ _ _)
   | (with_reducible exact carousellaw15_awake.mono _)
   | (with_reducible exact opt_Apply.mono _ _ _ _ _ _ _ _)
   | (with_reducible exact LeO.refl _)
   | (with_reducible exact LeO.none _)
   | (with_reducible refine LeO.ite ?_ ?_)
   | (with_reducible refine LeO.bind ?_ (fun _ => ?_))
   | exact ih0 _ _ _ _ _ _ _ _
   | exact carousellaw15_awake.mono _
   | exact opt_Apply.mono _ _ _ _ _ _ _ _
   | exact LeO.none _
   | refine LeO.ite ?_ ?_
   | refine LeO.bind ?_ (fun _ => ?_)
theorem carousellaw15_OptAlone.mono : ∀ a0 a1 a2 a3 a4 a5 a6 k, LeO (carousellaw15_OptAlone.f k a0 a1 a2 a3 a4 a5 a6) (carousellaw15_OptAlone.f (k + 1) a0 a1 a2 a3 a4 a5 a6) := by
 intro a0 a1 a2 a3 a4 a5 a6 k
 have ih0 := carousellaw15_OptAlone.mono_l k
 unfold carousellaw15_OptAlone.f
 repeat' first
   | (with_reducible exact ih0 _ _ _ _ _ _ _ _)
   | (with_reducible exact carousellaw15_awake.mono _)
   | (with_reducible exact opt_Apply.mono _ _ _ _ _ _ _ _)
   | (with_reducible exact LeO.refl _)
   | (with_reducible exact LeO.none _)
   | (with_reducible refine LeO.ite ?_ ?_)
   | (with_reducible refine LeO.bind ?_ (fun _ => ?_))
   | exact ih0 _ _ _ _ _ _ _ _
   | exact carousellaw15_awake.mono _
   | exact opt_Apply.mono _ _ _ _ _ _ _ _
   | exact LeO.none _
   | refine LeO.ite ?_ ?_
   | refine LeO.bind ?_ (fun _ => ?_)
def carousellaw15_OptAlone.T6 : Bool × List (List Nat × List Nat) := (true, [([], []), ([], []), ([], []), ([2], [2]), ([0, 1, 3], [0, 1, 3]), ([], []), ([], []), ([], []), ([7], [7]), ([5, 6, 8], [5, 6, 8]), ([4, 9], [4, 9]), ([], []), ([], []), ([], []), ([13], [13]), ([11, 12, 14], [11, 12, 14]), ([], []), ([10, 15, 16], [10, 15, 16]), ([17], [17]), ([18], [18]), ([18], [18]), ([], []), ([21, 19, 17, 0, 1, 2, 3, 4, 5, 6, 7, 8, 9, 10, 11, 12, 13, 14, 15, 16, 17, 18, 19, 21], [19, 21]), ([20, 22, 0, 1, 2, 3, 4, 5, 6, 7, 8, 9, 10, 11, 12, 13, 14, 15, 16, 17, 18, 19, 20, 21, 22], [20])])
def carousellaw15_OptAlone.B6 : List Nat := [0, 0, 0, 4, 15, 0, 0, 0, 128, 480, 1023, 0, 0, 0, 8192, 30720, 0, 131071, 262143, 524287, 524287, 0, 3145727, 8388607]
theorem carousellaw15_OptAlone.tab6 : rtab .any (opsOf Try.f7 6) = carousellaw15_OptAlone.T6 := by kernel_rfl
theorem carousellaw15_OptAlone.bits6 : waitsOk carousellaw15_OptAlone.T6.2 carousellaw15_OptAlone.B6 = true := by kernel_rfl
def carousellaw15_OptAlone.T7 : Bool × List (List Nat × List Nat) := (true, [([], []), ([0], [0]), ([1], [1]), ([2], [2]), ([3, 2], [2, 3]), ([2, 4], [2, 4]), ([5, 2], [5]), ([6], [6]), ([7, 6], [6, 7]), ([6], [6]), ([8, 9, 6], [6, 8, 9]), ([10, 6], [6, 10]), ([6], [6]), ([12, 6], [6, 12]), ([13, 6], [6, 13]), ([14, 6], [6, 14]), ([11, 15, 6], [6, 11, 15]), ([6, 16], [6, 16]), ([17, 6], [17]), ([18], [18]), ([19, 18], [18, 19]), ([18], [18]), ([20, 21, 18], [18, 20, 21]), ([22, 18], [18, 22]), ([18], [18]), ([24, 18], [18, 24]), ([25, 18], [18, 25]), ([26, 18], [18, 26]), ([23, 27, 18], [18, 23, 27]), ([18, 28], [18, 28]), ([29, 18, 0, 1, 2, 3, 4, 5, 6, 7, 8, 9, 10, 11, 12, 13, 14, 15, 16, 17, 18, 19, 20, 21, 22, 23, 24, 25, 26, 27, 28, 29], [29])])
def carousellaw15_OptAlone.B7 : List Nat := [0, 1, 3, 7, 15, 31, 63, 127, 255, 127, 1023, 2047, 127, 4223, 12415, 28799, 65535, 131071, 262143, 524287, 1048575, 524287, 4194303, 8388607, 524287, 17301503, 50855935, 117964799, 268435455, 536870911, 1073741823]
theorem carousellaw15_OptAlone.tab7 : rtab .any (opsOf Try.f7 7) = carousellaw15_OptAlone.T7 := by kernel_rfl
theorem carousellaw15_OptAlone.bits7 : waitsOk carousellaw15_OptAlone.T7.2 carousellaw15_OptAlone.B7 = true := by kernel_rfl
set_option maxHeartbeats 8000000 in
set_option maxRecDepth 100000 in
theorem carousellaw15_OptAlone.calls (k : Nat) (A0 : Option Addr) (c0 : Nat) (l0 : List Int) (A1 : Option Addr) (c1 : Nat) (l1 : List Int) (A2 : Option Addr) (c2 : Nat) (l2 : List (S30)) (a3 : Int) (a4_0 : Int) (a4_1 : Int) (a4_2 : Int) (r : Bool) (w : World) (hr0 : Kd.C (Kd.int .i64) w A0 l0.length l0) (hc0 : l0.length ≤ c0) (hr1 : Kd.C (Kd.int .i64) w A1 l1.length l1) (hc1 : l1.length ≤ c1) (hr2 : Kd.C k30 w A2 l2.length l2) (hc2 : l2.length ≤ c2) (h : carousellaw15_OptAlone.f k l0 l1 l2 a3 a4_0 a4_1 a4_2 = some r) :
  Calls Try.prog 7 #[.slice A0 l0.length c0, .slice A1 l1.length c1, .slice A2 l2.length c2, .int .i64 a3, .agg #[.int .i64 a4_0, .int .i64 a4_1, .int .i64 a4_2]] w fun e w' => e = .returned (.bool r) ∧ Below w.heap.size w w' := by
 have hu37 := Try.underlying37
 have hu25 := Try.underlying25
 have HR0 := Aside0.mk hr0
 have HC0 := Aside0.mk hc0
 clear hr0 hc0
 have HR1 := Aside0.mk hr1
 have HC1 := Aside0.mk hc1
 clear hr1 hc1
 have HR2 := Aside0.mk hr2
 have HC2 := Aside0.mk hc2
 clear hr2 hc2
 have HB := Aside0.mk (Below.refl w.heap.size w)
 have H : ((carousellaw15_awake.f k).bind fun t218 => (if t218 = true then (if (l0.length : Int) > 40 then (carousellaw15_OptAlone.j0 k l0 l1 l2 a3 true a4_0 a4_1 a4_2) else (if (l1.length : Int) = (l0.length : Int) then (if (l2.length : Int) = (l0.length : Int) then (if a3 < 0 then (carousellaw15_OptAlone.j0 k l0 l1 l2 a3 true a4_0 a4_1 a4_2) else (if a3 ≥ (l0.length : Int) then (carousellaw15_OptAlone.j0 k l0 l1 l2 a3 true a4_0 a4_1 a4_2) else (carousellaw15_OptAlone.j0 k l0 l1 l2 a3 (decide (a4_2 < 0)) a4_0 a4_1 a4_2))) else (carousellaw15_OptAlone.j0 k l0 l1 l2 a3 true a4_0 a4_1 a4_2)) else (carousellaw15_OptAlone.j0 k l0 l1 l2 a3 true a4_0 a4_1 a4_2))) else (none))) = some r := h
 clear h
 replace H := Option.bind_eq_some_iff.mp H
 obtain ⟨t218, A60, H⟩ := H
 replace H : (if t218 = true then (if (l0.length : Int) > 40 then (carousellaw15_OptAlone.j0 k l0 l1 l2 a3 true a4_0 a4_1 a4_2) else (if (l1.length : Int) = (l0.length : Int) then (if (l2.length : Int) = (l0.length : Int) then (if a3 < 0 then (carousellaw15_OptAlone.j0 k l0 l1 l2 a3 true a4_0 a4_1 a4_2) else (if a3 ≥ (l0.length : Int) then (carousellaw15_OptAlone.j0 k l0 l1 l2 a3 true a4_0 a4_1 a4_2) else (carousellaw15_OptAlone.j0 k l0 l1 l2 a3 (decide (a4_2 < 0)) a4_0 a4_1 a4_2))) else (carousellaw15_OptAlone.j0 k l0 l1 l2 a3 true a4_0 a4_1 a4_2)) else (carousellaw15_OptAlone.j0 k l0 l1 l2 a3 true a4_0 a4_1 a4_2))) else (none)) = some r := H
 have A6 := Aside0.mk A60
 clear A60
 by_cases c7 : t218 = true
 ·subst c7
  have H1 : (if (l0.length : Int) > 40 then (carousellaw15_OptAlone.j0 k l0 l1 l2 a3 true a4_0 a4_1 a4_2) else (if (l1.length : Int) = (l0.length : Int) then (if (l2.length : Int) = (l0.length : Int) then (if a3 < 0 then (carousellaw15_OptAlone.j0 k l0 l1 l2 a3 true a4_0 a4_1 a4_2) else (if a3 ≥ (l0.length : Int) then (carousellaw15_OptAlone.j0 k l0 l1 l2 a3 true a4_0 a4_1 a4_2) else (carousellaw15_OptAlone.j0 k l0 l1 l2 a3 (decide (a4_2 < 0)) a4_0 a4_1 a4_2))) else (carousellaw15_OptAlone.j0 k l0 l1 l2 a3 true a4_0 a4_1 a4_2)) else (carousellaw15_OptAlone.j0 k l0 l1 l2 a3 true a4_0 a4_1 a4_2))) = some r := by rw [if_pos rfl] at H; exact H
  clear H
  have H := H1
  clear H1
  have HC8 := Aside0.mk H
  clear H
  go_enter Try.func7, Try.ntmps7
  go_upto_region 3 with (first | ((with_reducible refine gate_dst (N := 9) rfl ?_); (try (refine gate_guard (by rfl) ?_; dsimp only)); refine box_event ?hg (N := 9) ?hd (cs := #[.int .i64 a4_0, .int .i64 a4_1, .int .i64 a4_2]) (t := 37) ?hr ?_; (case hd => rfl); (case hg => rfl); (case hr => first | (go_simp; done) | (go_simp; rfl)); intro gb217 hg w9 hbox hb; have n0_ := Aside0.mk (below_step (by repeat (first | (with_reducible first | exact HB.out | apply below_alloc | apply pw_below_drewN | apply below_drew1) | exact HB.out)) hb); have n1_ := Aside0.mk (hbox); have n2_ := Aside0.mk ((by rw [hg]; exact (below_size (by repeat (first | (with_reducible first | exact HB.out | apply below_alloc | apply pw_below_drewN | apply below_drew1) | exact HB.out))) : w.heap.size ≤ gb217)); have n3_ := Aside0.mk ((by rw [hg]; exact (below_size (by repeat (first | (with_reducible first | exact HB.out | apply below_alloc | apply pw_below_drewN | apply below_drew1) | exact HB.out))) : w.heap.size ≤ gb217)); clear HB; have HB := n0_; have BK217 := n1_; have GW217 := n2_; have GE217 := n3_; clear n0_ n1_ n2_ n3_; clear hb hbox hg) | ((with_reducible refine gate_callee (f := 9) rfl ?_); refine goesL_ (some 15) rfl rfl Try.func9 (by kernel_rfl) rfl #[] rfl (by (try simp only [List.map_toArray, List.map_cons, List.map_nil]); first | done | rfl | (simp only [List.length_drop, List.length_take]; rfl)) ?_; (with_reducible refine (carousellaw15_awake.calls k  true _ A6.out).mono ?_); rintro e w10 ⟨rfl, hb⟩; refine ⟨_, rfl, ?_⟩; have n0_ := Aside0.mk (blk_below (g := gb217) (o := .cells #[.int .i64 a4_0, .int .i64 a4_1, .int .i64 a4_2] 37 (0, 0)) (by (with_reducible repeat (first | refine blk_drewN ?_ _ | refine blk_drew ?_ | refine blk_alloc ?_ _)); exact BK217.out) hb); have n1_ := Aside0.mk (below_step (by repeat (first | (with_reducible first | exact HB.out | apply below_alloc | apply pw_below_drewN | apply below_drew1 | refine below_set ?_ GE217.out) | exact HB.out)) hb); clear BK217; clear HB; have BK217 := n0_; have HB := n1_; clear n0_ n1_; (try clear hb); (try clear hb2); (try clear hk); (try clear hi)))
  (try simp only [Act.put, List.setIfInBounds_toArray, List.set_cons_zero, List.set_cons_succ])
  go_cut [48] (fun v48 wc => ∃ (kq : Nat) (x48_7 : Bool), v48 = .bool x48_7 ∧ Aside0 (carousellaw15_OptAlone.j0 kq l0 l1 l2 a3 x48_7 a4_0 a4_1 a4_2 = some r) ∧ Aside0 (kq ≤ k) ∧ Aside0 (wc.heap[gb217]? = some (.cells #[.int .i64 a4_0, .int .i64 a4_1, .int .i64 a4_2] 37 (0, 0))) ∧ Aside0 (Below w.heap.size w wc))
  case first =>
   have H := HC8.out
   clear HC8
   by_cases c11 : (l0.length : Int) > 40
   ·rw [if_pos c11] at H
    have c11b0 : decide (40 < (l0.length : Int)) = true := decide_eq_true c11
    have c11b1 : decide (40 < l0.length) = true := decide_eq_true (by omega)
    clear c11
    (first | rw [c11b0] | (simp only [i64_w, i32_w]; rw [c11b0]) | rw [c11b1] | skip)
    have H' := Aside0.mk H
    clear H
    go_wp2
    go_meet
    case rel => exact ⟨_, (true), (by first | rfl | (simp; done) | (simp [*]; done)), H', ⟨by first | omega | exact Nat.le_refl _⟩, ⟨by (with_reducible repeat (first | refine blk_drewN ?_ _ | refine blk_drew ?_ | refine blk_alloc ?_ _)); exact BK217.out⟩, ⟨by repeat (first | (with_reducible first | exact HB.out | apply below_alloc | apply pw_below_drewN | apply below_drew1 | refine below_set ?_ GE217.out) | exact HB.out)⟩⟩
   ·rw [if_neg c11] at H
    have c11b0 : decide (40 < (l0.length : Int)) = false := decide_eq_false c11
    have c11b1 : decide (40 < l0.length) = false := decide_eq_false (by omega)
    clear c11
    (first | rw [c11b0] | (simp only [i64_w, i32_w]; rw [c11b0]) | rw [c11b1] | skip)
    by_cases c12 : (l1.length : Int) = (l0.length : Int)
    ·rw [if_pos c12] at H
     have c12b0 : ((l1.length : Int) == (l0.length : Int)) = true := beq_iff_eq.mpr c12
     have c12b1 : ((l1.length : Int) != (l0.length : Int)) = false := bne_eq_false_iff_eq.mpr c12
     have c12b2 : (l1.length == l0.length) = true := by first | simpa using c12 | (simp at c12 ⊢; omega)
     clear c12
     by_cases c13 : (l2.length : Int) = (l0.length : Int)
     ·rw [if_pos c13] at H
      have c13b0 : ((l2.length : Int) == (l0.length : Int)) = true := beq_iff_eq.mpr c13
      have c13b1 : ((l2.length : Int) != (l0.length : Int)) = false := bne_eq_false_iff_eq.mpr c13
      have c13b2 : (l2.length == l0.length) = true := by first | simpa using c13 | (simp at c13 ⊢; omega)
      clear c13
      by_cases c14 : a3 < 0
      ·rw [if_pos c14] at H
       have c14b0 : decide (a3 < 0) = true := decide_eq_true c14
       clear c14
       have H' := Aside0.mk H
       clear H
       go_wp2
       go_meet
       case rel => exact ⟨_, (true), (by first | rfl | (simp; done) | (simp [*]; done)), H', ⟨by first | omega | exact Nat.le_refl _⟩, ⟨by (with_reducible repeat (first | refine blk_drewN ?_ _ | refine blk_drew ?_ | refine blk_alloc ?_ _)); exact BK217.out⟩, ⟨by repeat (first | (with_reducible first | exact HB.out | apply below_alloc | apply pw_below_drewN | apply below_drew1 | refine below_set ?_ GE217.out) | exact HB.out)⟩⟩
      ·rw [if_neg c14] at H
       have c14b0 : decide (a3 < 0) = false := decide_eq_false c14
       clear c14
       by_cases c15 : a3 ≥ (l0.length : Int)
       ·rw [if_pos c15] at H
        have c15b0 : decide ((l0.length : Int) ≤ a3) = true := decide_eq_true c15
        clear c15
        have H' := Aside0.mk H
        clear H
        go_wp2
        go_meet
        case rel => exact ⟨_, (true), (by first | rfl | (simp; done) | (simp [*]; done)), H', ⟨by first | omega | exact Nat.le_refl _⟩, ⟨by (with_reducible repeat (first | refine blk_drewN ?_ _ | refine blk_drew ?_ | refine blk_alloc ?_ _)); exact BK217.out⟩, ⟨by repeat (first | (with_reducible first | exact HB.out | apply below_alloc | apply pw_below_drewN | apply below_drew1 | refine below_set ?_ GE217.out) | exact HB.out)⟩⟩
       ·rw [if_neg c15] at H
        have c15b0 : decide ((l0.length : Int) ≤ a3) = false := decide_eq_false c15
        clear c15
        have H' := Aside0.mk H
        clear H
        have hcz16_0 : w10.cell? ⟨gb217, 0, none⟩ = some (.int .i64 a4_0) := (blk_cell BK217.out 0).trans rfl
        have hcz16_1 : w10.cell? ⟨gb217, 1, none⟩ = some (.int .i64 a4_1) := (blk_cell BK217.out 1).trans rfl
        have hcz16_2 : w10.cell? ⟨gb217, 2, none⟩ = some (.int .i64 a4_2) := (blk_cell BK217.out 2).trans rfl
        have hfz16_0 := blk_frozen BK217.out 0
        have hfz16_1 := blk_frozen BK217.out 1
        have hfz16_2 := blk_frozen BK217.out 2
        go_wp2
        go_meet
        case rel => exact ⟨_, (decide (a4_2 < 0)), (by first | rfl | (simp; done) | (simp [*]; done)), H', ⟨by first | omega | exact Nat.le_refl _⟩, ⟨by (with_reducible repeat (first | refine blk_drewN ?_ _ | refine blk_drew ?_ | refine blk_alloc ?_ _)); exact BK217.out⟩, ⟨by repeat (first | (with_reducible first | exact HB.out | apply below_alloc | apply pw_below_drewN | apply below_drew1 | refine below_set ?_ GE217.out) | exact HB.out)⟩⟩
     ·rw [if_neg c13] at H
      have c13b0 : ((l2.length : Int) == (l0.length : Int)) = false := beq_eq_false_iff_ne.mpr c13
      have c13b1 : ((l2.length : Int) != (l0.length : Int)) = true := bne_iff_ne.mpr c13
      have c13b2 : (l2.length == l0.length) = false := by first | simpa using c13 | (simp at c13 ⊢; omega)
      have H' := Aside0.mk H
      clear H
      go_wp2
      go_meet
      case rel => exact ⟨_, (true), (by first | rfl | (simp; done) | (simp [*]; done)), H', ⟨by first | omega | exact Nat.le_refl _⟩, ⟨by (with_reducible repeat (first | refine blk_drewN ?_ _ | refine blk_drew ?_ | refine blk_alloc ?_ _)); exact BK217.out⟩, ⟨by repeat (first | (with_reducible first | exact HB.out | apply below_alloc | apply pw_below_drewN | apply below_drew1 | refine below_set ?_ GE217.out) | exact HB.out)⟩⟩
    ·rw [if_neg c12] at H
     have c12b0 : ((l1.length : Int) == (l0.length : Int)) = false := beq_eq_false_iff_ne.mpr c12
     have c12b1 : ((l1.length : Int) != (l0.length : Int)) = true := bne_iff_ne.mpr c12
     have c12b2 : (l1.length == l0.length) = false := by first | simpa using c12 | (simp at c12 ⊢; omega)
     have H' := Aside0.mk H
     clear H
     go_wp2
     go_meet
     case rel => exact ⟨_, (true), (by first | rfl | (simp; done) | (simp [*]; done)), H', ⟨by first | omega | exact Nat.le_refl _⟩, ⟨by (with_reducible repeat (first | refine blk_drewN ?_ _ | refine blk_drew ?_ | refine blk_alloc ?_ _)); exact BK217.out⟩, ⟨by repeat (first | (with_reducible first | exact HB.out | apply below_alloc | apply pw_below_drewN | apply below_drew1 | refine below_set ?_ GE217.out) | exact HB.out)⟩⟩
  case rest =>
   clear HC8
   try clear c1
   try clear c2
   try clear p2
   try clear c7
   try clear c9
   try clear c11
   try clear c11b0
   try clear c11b1
   try clear c12
   try clear c12b0
   try clear c12b1
   try clear c12b2
   try clear c13
   try clear c13b0
   try clear c13b1
   try clear c13b2
   try clear c14
   try clear c14b0
   try clear c15
   try clear c15b0
   try clear hcz16_0
   try clear hcz16_1
   try clear hcz16_2
   try clear hfz16_0
   try clear hfz16_1
   try clear hfz16_2
   obtain ⟨kq, x48_7, rfl, HA, HJ7, BK217, HB⟩ := hcut
   cases kq with
   | zero => exact absurd HA.out (by simp [carousellaw15_OptAlone.j0])
   | succ kj7 =>
    have H := HA.out
    clear HA
    simp only [carousellaw15_OptAlone.j0] at H
    by_cases c17 : x48_7 = true
    ·subst c17
     have H1 : (some true) = some r := by rw [if_pos rfl] at H; exact H
     clear H
     have H := H1
     clear H1
     obtain rfl := Option.some.inj H
     go_wp2
     go_ret
     exact ⟨by first | rfl | (simp [errW_none, errW_some] <;> rfl) | (simp [*, errW_none, errW_some] <;> rfl), by repeat (first | (with_reducible first | exact HB.out | apply below_alloc | apply pw_below_drewN | apply below_drew1 | refine below_set ?_ GE217.out) | exact HB.out)⟩
    ·replace c17 := Bool.eq_false_iff.mpr c17
     subst c17
     have H1 : ((opt_Apply.f kj7 l0 l1 l2 3 a4_0 a4_1 a4_2).bind fun bt219 => (if 0 ≤ a3 then (if a3 ≤ (wrap64 (a3 + 1)) then (if (wrap64 (a3 + 1)) ≤ (l0.length : Int) then (if (wrap64 (a3 + 1)) ≤ (l1.length : Int) then (if (wrap64 (a3 + 1)) ≤ (l2.length : Int) then ((opt_Apply.f kj7 ((l0.take ((wrap64 (a3 + 1)) : Int).toNat).drop (a3 : Int).toNat) ((l1.take ((wrap64 (a3 + 1)) : Int).toNat).drop (a3 : Int).toNat) ((l2.take ((wrap64 (a3 + 1)) : Int).toNat).drop (a3 : Int).toNat) 3 a4_0 a4_1 a4_2).bind fun bt233 => (if bt219.2.2 = 0 then (if bt233.2.2 = 0 then (if a3 < (bt219.1.length : Int) then (if 0 < (bt233.1.length : Int) then (if (rd bt219.1 a3) = (rd bt233.1 0) then (if a3 < (bt219.2.1.length : Int) then (if 0 < (bt233.2.1.length : Int) then (some ((rd bt219.2.1 a3) == (rd bt233.2.1 0))) else (none)) else (none)) else (none)) else (none)) else (none)) else (none)) else (none))) else (none)) else (none)) else (none)) else (none)) else (none))) = some r := by rw [if_neg (show ¬ (false = true) by decide)] at H; exact H
     clear H
     have H := H1
     clear H1
     replace H := Option.bind_eq_some_iff.mp H
     obtain ⟨⟨t219, t222, t225⟩, A180, H⟩ := H
     replace H : (if 0 ≤ a3 then (if a3 ≤ (wrap64 (a3 + 1)) then (if (wrap64 (a3 + 1)) ≤ (l0.length : Int) then (if (wrap64 (a3 + 1)) ≤ (l1.length : Int) then (if (wrap64 (a3 + 1)) ≤ (l2.length : Int) then ((opt_Apply.f kj7 ((l0.take ((wrap64 (a3 + 1)) : Int).toNat).drop (a3 : Int).toNat) ((l1.take ((wrap64 (a3 + 1)) : Int).toNat).drop (a3 : Int).toNat) ((l2.take ((wrap64 (a3 + 1)) : Int).toNat).drop (a3 : Int).toNat) 3 a4_0 a4_1 a4_2).bind fun bt233 => (if t225 = 0 then (if bt233.2.2 = 0 then (if a3 < (t219.length : Int) then (if 0 < (bt233.1.length : Int) then (if (rd t219 a3) = (rd bt233.1 0) then (if a3 < (t222.length : Int) then (if 0 < (bt233.2.1.length : Int) then (some ((rd t222 a3) == (rd bt233.2.1 0))) else (none)) else (none)) else (none)) else (none)) else (none)) else (none)) else (none))) else (none)) else (none)) else (none)) else (none)) else (none)) = some r := H
     have A18 := Aside0.mk A180
     clear A180
     by_cases c19 : 0 ≤ a3
     ·rw [if_pos c19] at H
      have c19b0 := eq_true c19
      have c19b1 : decide (0 ≤ a3) = true := decide_eq_true c19
      clear c19
      by_cases c20 : a3 ≤ (wrap64 (a3 + 1))
      ·rw [if_pos c20] at H
       have c20b0 := eq_true c20
       have c20b1 : decide (a3 ≤ (wrap64 (a3 + 1))) = true := decide_eq_true c20
       by_cases c21 : (wrap64 (a3 + 1)) ≤ (l0.length : Int)
       ·rw [if_pos c21] at H
        have c21b0 := eq_true c21
        have c21b1 : decide ((wrap64 (a3 + 1)) ≤ (l0.length : Int)) = true := decide_eq_true c21
        have c22b0 := eq_true (of_decide_eq_true (by first | (with_reducible assumption) | assumption) : 0 ≤ a3)
        have c23b0 := eq_true (of_decide_eq_true (by first | (with_reducible assumption) | assumption) : a3 ≤ (wrap64 (a3 + 1)))
        by_cases c24 : (wrap64 (a3 + 1)) ≤ (l1.length : Int)
        ·rw [if_pos c24] at H
         have c24b0 := eq_true c24
         have c24b1 : decide ((wrap64 (a3 + 1)) ≤ (l1.length : Int)) = true := decide_eq_true c24
         have c25b0 := eq_true (of_decide_eq_true (by first | (with_reducible assumption) | assumption) : 0 ≤ a3)
         have c26b0 := eq_true (of_decide_eq_true (by first | (with_reducible assumption) | assumption) : a3 ≤ (wrap64 (a3 + 1)))
         by_cases c27 : (wrap64 (a3 + 1)) ≤ (l2.length : Int)
         ·rw [if_pos c27] at H
          have c27b0 := eq_true c27
          have c27b1 : decide ((wrap64 (a3 + 1)) ≤ (l2.length : Int)) = true := decide_eq_true c27
          obtain ⟨y229, hy229⟩ : ∃ y_ : List (S30), y_ = ((l2.take ((wrap64 (a3 + 1)) : Int).toNat).drop (a3 : Int).toNat) := ⟨_, rfl⟩
          replace H : ((opt_Apply.f kj7 ((l0.take ((wrap64 (a3 + 1)) : Int).toNat).drop (a3 : Int).toNat) ((l1.take ((wrap64 (a3 + 1)) : Int).toNat).drop (a3 : Int).toNat) y229 3 a4_0 a4_1 a4_2).bind fun bt233 => (if t225 = 0 then (if bt233.2.2 = 0 then (if a3 < (t219.length : Int) then (if 0 < (bt233.1.length : Int) then (if (rd t219 a3) = (rd bt233.1 0) then (if a3 < (t222.length : Int) then (if 0 < (bt233.2.1.length : Int) then (some ((rd t222 a3) == (rd bt233.2.1 0))) else (none)) else (none)) else (none)) else (none)) else (none)) else (none)) else (none))) = some r := by first | (rw [hy229]; with_reducible exact H) | (have H2_ := (Option.bind_some _ _).symm.trans H; rw [hy229]; with_reducible exact H2_) | (have H2_ := (Option.bind_some _ _).symm.trans H; with_reducible exact H2_) | with_reducible exact H | (rw [hy229]; exact H) | exact H
          have Ny229 := Aside0.mk hy229
          clear hy229
          replace H := Option.bind_eq_some_iff.mp H
          obtain ⟨⟨t233, t236, t239⟩, A280, H⟩ := H
          replace H : (if t225 = 0 then (if t239 = 0 then (if a3 < (t219.length : Int) then (if 0 < (t233.length : Int) then (if (rd t219 a3) = (rd t233 0) then (if a3 < (t222.length : Int) then (if 0 < (t236.length : Int) then (some ((rd t222 a3) == (rd t236 0))) else (none)) else (none)) else (none)) else (none)) else (none)) else (none)) else (none)) = some r := H
          have A28 := Aside0.mk A280
          clear A280
          by_cases c29 : t225 = 0
          ·rw [if_pos c29] at H
           have c29b0 : (t225 == 0) = true := beq_iff_eq.mpr c29
           have c29b1 : (t225 != 0) = false := bne_eq_false_iff_eq.mpr c29
           clear c29
           by_cases c30 : t239 = 0
           ·rw [if_pos c30] at H
            have c30b0 : (t239 == 0) = true := beq_iff_eq.mpr c30
            have c30b1 : (t239 != 0) = false := bne_eq_false_iff_eq.mpr c30
            clear c30
            by_cases c31 : a3 < (t219.length : Int)
            ·rw [if_pos c31] at H
             have c31b0 : decide (a3 < (t219.length : Int)) = true := decide_eq_true c31
             clear c31
             by_cases c32 : 0 < (t233.length : Int)
             ·rw [if_pos c32] at H
              have c32b0 : decide (0 < (t233.length : Int)) = true := decide_eq_true c32
              have c32b1 : decide (0 < t233.length) = true := decide_eq_true (by omega)
              clear c32
              by_cases c33 : (rd t219 a3) = (rd t233 0)
              ·rw [if_pos c33] at H
               have c33b0 : ((rd t219 a3) == (rd t233 0)) = true := beq_iff_eq.mpr c33
               have c33b1 : ((rd t219 a3) != (rd t233 0)) = false := bne_eq_false_iff_eq.mpr c33
               clear c33
               by_cases c34 : a3 < (t222.length : Int)
               ·rw [if_pos c34] at H
                have c34b0 : decide (a3 < (t222.length : Int)) = true := decide_eq_true c34
                clear c34
                by_cases c35 : 0 < (t236.length : Int)
                ·rw [if_pos c35] at H
                 have c35b0 : decide (0 < (t236.length : Int)) = true := decide_eq_true c35
                 have c35b1 : decide (0 < t236.length) = true := decide_eq_true (by omega)
                 clear c35
                 obtain rfl := Option.some.inj H
                 have hcz36_0 : wc.cell? ⟨gb217, 0, none⟩ = some (.int .i64 a4_0) := (blk_cell BK217.out 0).trans rfl
                 have hcz36_1 : wc.cell? ⟨gb217, 1, none⟩ = some (.int .i64 a4_1) := (blk_cell BK217.out 1).trans rfl
                 have hcz36_2 : wc.cell? ⟨gb217, 2, none⟩ = some (.int .i64 a4_2) := (blk_cell BK217.out 2).trans rfl
                 have hfz36_0 := blk_frozen BK217.out 0
                 have hfz36_1 := blk_frozen BK217.out 1
                 have hfz36_2 := blk_frozen BK217.out 2
                 try go_wp2_with (first | ((with_reducible refine gate_callee (f := 12) rfl ?_); refine goesL_ (some 55) rfl rfl Try.func12 (by kernel_rfl) rfl #[.agg #[.slice A0 l0.length c0, .slice A1 l1.length c1], .slice A2 l2.length c2, .int .i64 3, .agg #[.int .i64 a4_0, .int .i64 a4_1, .int .i64 a4_2]] rfl (by (try simp only [List.map_toArray, List.map_cons, List.map_nil]); first | done | rfl | (simp only [List.length_drop, List.length_take]; rfl)) ?_; (with_reducible refine (opt_Apply.calls kj7 _ _ l0 _ _ l1 _ _ l2 3 a4_0 a4_1 a4_2 t219 t222 t225 _ ?side1 ?side2 ?side3 ?side4 ?side5 ?side6 A18.out).mono ?_); (case side1 => repeat (first | exact (Kd.C_below HR0.out HB.out) | (with_reducible refine Kd.C_alloc ?_ _) | (with_reducible refine Kd.C_drewN ?_ _) | (with_reducible refine Kd.C_drew ?_))); (case side2 => exact HC0.out); (case side3 => repeat (first | exact (Kd.C_below HR1.out HB.out) | (with_reducible refine Kd.C_alloc ?_ _) | (with_reducible refine Kd.C_drewN ?_ _) | (with_reducible refine Kd.C_drew ?_))); (case side4 => exact HC1.out); (case side5 => repeat (first | exact (Kd.C_below HR2.out HB.out) | (with_reducible refine Kd.C_alloc ?_ _) | (with_reducible refine Kd.C_drewN ?_ _) | (with_reducible refine Kd.C_drew ?_))); (case side6 => exact HC2.out); rintro e w37 ⟨v220, v223, rfl, ho0, ho1, hb⟩; refine ⟨_, rfl, ?_⟩; have n0_ := Aside0.mk (Kd.R_lower ho0 (below_size (by repeat (first | (with_reducible first | exact HB.out | apply below_alloc | apply pw_below_drewN | apply below_drew1 | refine below_set ?_ GE217.out) | exact HB.out)))); have n1_ := Aside0.mk (Kd.R_lower ho1 (below_size (by repeat (first | (with_reducible first | exact HB.out | apply below_alloc | apply pw_below_drewN | apply below_drew1 | refine below_set ?_ GE217.out) | exact HB.out)))); have n2_ := Aside0.mk (blk_below (g := gb217) (o := .cells #[.int .i64 a4_0, .int .i64 a4_1, .int .i64 a4_2] 37 (0, 0)) (by (with_reducible repeat (first | refine blk_drewN ?_ _ | refine blk_drew ?_ | refine blk_alloc ?_ _)); exact BK217.out) hb); have n3_ := Aside0.mk (below_step (by repeat (first | (with_reducible first | exact HB.out | apply below_alloc | apply pw_below_drewN | apply below_drew1 | refine below_set ?_ GE217.out) | exact HB.out)) hb); clear BK217; clear HB; have HO221 := n0_; have HO224 := n1_; have BK217 := n2_; have HB := n3_; clear n0_ n1_ n2_ n3_; (try clear hb); (try clear hb2); (try clear hk); (try clear hi); (try clear ho0); (try clear ho1)) | ((with_reducible refine gate_dst (N := 11) rfl ?_); (try (refine gate_guard (by rfl) ?_; dsimp only)); refine box_event ?hg (N := 11) ?hd (cs := #[.slice none 0 0, .slice none 0 0]) (t := 25) ?hr ?_; (case hd => rfl); (case hg => rfl); (case hr => first | (go_simp; done) | (go_simp; rfl)); intro gb226 hg w38 hbox hb; have n0_ := Aside0.mk (Kd.R_below (by (with_reducible repeat (first | apply Kd.R_alloc | apply Kd.R_drewN | apply Kd.R_drew)); exact HO221.out) hb); have n1_ := Aside0.mk (Kd.R_below (by (with_reducible repeat (first | apply Kd.R_alloc | apply Kd.R_drewN | apply Kd.R_drew)); exact HO224.out) hb); have n2_ := Aside0.mk (blk_below (g := gb217) (o := .cells #[.int .i64 a4_0, .int .i64 a4_1, .int .i64 a4_2] 37 (0, 0)) (by (with_reducible repeat (first | refine blk_drewN ?_ _ | refine blk_drew ?_ | refine blk_alloc ?_ _)); exact BK217.out) hb); have n3_ := Aside0.mk (below_step (by repeat (first | (with_reducible first | exact HB.out | apply below_alloc | apply pw_below_drewN | apply below_drew1 | refine below_set ?_ GE217.out) | exact HB.out)) hb); have n4_ := Aside0.mk (hbox); have n5_ := Aside0.mk ((by rw [hg]; exact (below_size (by repeat (first | (with_reducible first | exact HB.out | apply below_alloc | apply pw_below_drewN | apply below_drew1 | refine below_set ?_ GE217.out) | exact HB.out))) : w.heap.size ≤ gb226)); have n6_ := Aside0.mk ((by rw [hg]; exact (below_size (by repeat (first | (with_reducible first | exact HB.out | apply below_alloc | apply pw_below_drewN | apply below_drew1 | refine below_set ?_ GE217.out) | exact HB.out))) : w.heap.size ≤ gb226)); have n7_ := Aside0.mk ((by rw [hg]; exact Nat.ne_of_lt (blk_lt (g := gb217) (o := .cells #[.int .i64 a4_0, .int .i64 a4_1, .int .i64 a4_2] 37 (0, 0)) (by (with_reducible repeat (first | refine blk_drewN ?_ _ | refine blk_drew ?_ | refine blk_alloc ?_ _)); exact BK217.out)) : gb217 ≠ gb226)); have n8_ := Aside0.mk ((by rw [hg]; exact Nat.ne_of_gt (blk_lt (g := gb217) (o := .cells #[.int .i64 a4_0, .int .i64 a4_1, .int .i64 a4_2] 37 (0, 0)) (by (with_reducible repeat (first | refine blk_drewN ?_ _ | refine blk_drew ?_ | refine blk_alloc ?_ _)); exact BK217.out)) : gb226 ≠ gb217)); clear HO221; clear HO224; clear BK217; clear HB; have HO221 := n0_; have HO224 := n1_; have BK217 := n2_; have HB := n3_; have BK226 := n4_; have GW226 := n5_; have GE226 := n6_; have NB217_226 := n7_; have NB226_217 := n8_; clear n0_ n1_ n2_ n3_ n4_ n5_ n6_ n7_ n8_; clear hb hbox hg; obtain ⟨Ao39, co39, eo39⟩ := Kd.R_slice HO221.out; subst eo39; have hnb40 := NB226_217.out; have hnc40 := NB217_226.out; have hcz41_0 : w38.cell? ⟨gb226, 0, none⟩ = some (.slice none 0 0) := (blk_cell BK226.out 0).trans rfl; have hcz41_1 : w38.cell? ⟨gb226, 1, none⟩ = some (.slice none 0 0) := (blk_cell BK226.out 1).trans rfl; have hfz41_0 := blk_frozen BK226.out 0; have hfz41_1 := blk_frozen BK226.out 1; obtain ⟨Ao42, co42, eo42⟩ := Kd.R_slice HO224.out; subst eo42))
                 have n0_ : Aside0 (Kd.R (Kd.int .i64) 27 ((w38.setCell ⟨gb226, 0, none⟩ (.slice Ao39 t219.length co39)).setCell ⟨gb226, 1, none⟩ (.slice Ao42 t222.length co42)) w.heap.size (fun k_ => some k_ ≠ (.slice Ao42 t222.length co42 : Value).ownBlock) (.slice Ao39 t219.length co39) t219) := ⟨by (with_reducible repeat (first | apply Kd.R_alloc | apply Kd.R_drewN | apply Kd.R_drew)); exact Kd.R_mono (Kd.R_far (p := ⟨gb226, 1, none⟩) (Kd.R_far (p := ⟨gb226, 0, none⟩) (Kd.R_types HO221.out BK226.out (by decide)) (fun _ hk => hk.2) (.slice Ao39 t219.length co39)) (fun _ hk => hk.2) (.slice Ao42 t222.length co42)) (fun _ hk => hk.1)⟩
                 have n1_ : Aside0 (Kd.R (Kd.int .i64) 27 ((w38.setCell ⟨gb226, 0, none⟩ (.slice Ao39 t219.length co39)).setCell ⟨gb226, 1, none⟩ (.slice Ao42 t222.length co42)) w.heap.size (fun k_ => some k_ ≠ (.slice Ao39 t219.length co39 : Value).ownBlock) (.slice Ao42 t222.length co42) t222) := ⟨by (with_reducible repeat (first | apply Kd.R_alloc | apply Kd.R_drewN | apply Kd.R_drew)); exact Kd.R_mono (Kd.R_far (p := ⟨gb226, 1, none⟩) (Kd.R_far (p := ⟨gb226, 0, none⟩) (Kd.R_types HO224.out BK226.out (by decide)) (fun _ hk => hk.2) (.slice Ao39 t219.length co39)) (fun _ hk => hk.2) (.slice Ao42 t222.length co42)) (fun _ hk => hk.1)⟩
                 have n2_ : Aside0 (((w38.setCell ⟨gb226, 0, none⟩ (.slice Ao39 t219.length co39)).setCell ⟨gb226, 1, none⟩ (.slice Ao42 t222.length co42)).heap[gb217]? = some (.cells #[.int .i64 a4_0, .int .i64 a4_1, .int .i64 a4_2] 37 (0, 0))) := ⟨by (with_reducible repeat (first | refine blk_drewN ?_ _ | refine blk_drew ?_ | refine blk_alloc ?_ _)); refine blk_far ?_ NB217_226.out _; (with_reducible repeat (first | refine blk_drewN ?_ _ | refine blk_drew ?_ | refine blk_alloc ?_ _)); refine blk_far ?_ NB217_226.out _; (with_reducible repeat (first | refine blk_drewN ?_ _ | refine blk_drew ?_ | refine blk_alloc ?_ _)); exact BK217.out⟩
                 have n3_ : Aside0 (((w38.setCell ⟨gb226, 0, none⟩ (.slice Ao39 t219.length co39)).setCell ⟨gb226, 1, none⟩ (.slice Ao42 t222.length co42)).heap[gb226]? = some (.cells #[.slice Ao39 t219.length co39, .slice Ao42 t222.length co42] 25 (0, 0))) := ⟨by (with_reducible repeat (first | refine blk_drewN ?_ _ | refine blk_drew ?_ | refine blk_alloc ?_ _)); refine blk_put (cs := #[.slice Ao39 t219.length co39, .slice none 0 0]) ?_ 1 _ rfl; (with_reducible repeat (first | refine blk_drewN ?_ _ | refine blk_drew ?_ | refine blk_alloc ?_ _)); refine blk_put (cs := #[.slice none 0 0, .slice none 0 0]) ?_ 0 _ rfl; (with_reducible repeat (first | refine blk_drewN ?_ _ | refine blk_drew ?_ | refine blk_alloc ?_ _)); exact BK226.out⟩
                 have n4_ : Aside0 (Below w.heap.size w ((w38.setCell ⟨gb226, 0, none⟩ (.slice Ao39 t219.length co39)).setCell ⟨gb226, 1, none⟩ (.slice Ao42 t222.length co42))) := ⟨by repeat (first | (with_reducible first | exact HB.out | apply below_alloc | apply pw_below_drewN | apply below_drew1 | refine below_set ?_ GE217.out | refine below_set ?_ GE226.out) | exact HB.out)⟩
                 (try clear HO221)
                 (try clear HO224)
                 (try clear BK217)
                 (try clear BK226)
                 (try clear HB)
                 generalize ((w38.setCell ⟨gb226, 0, none⟩ (.slice Ao39 t219.length co39)).setCell ⟨gb226, 1, none⟩ (.slice Ao42 t222.length co42)) = w43 at n0_ n1_ n2_ n3_ n4_ ⊢
                 have HO221 := n0_
                 have HO224 := n1_
                 have BK217 := n2_
                 have BK226 := n3_
                 have HB := n4_
                 clear n0_ n1_ n2_ n3_ n4_
                 have n0_ := Aside0.mk (Kd.R_drew HO221.out)
                 have n1_ := Aside0.mk (Kd.R_drew HO224.out)
                 have n2_ := Aside0.mk (blk_drew BK217.out)
                 have n3_ := Aside0.mk (blk_drew BK226.out)
                 have n4_ := Aside0.mk (below_drew1 HB.out)
                 clear HO221
                 clear HO224
                 clear BK217
                 clear BK226
                 clear HB
                 have HO221 := n0_
                 have HO224 := n1_
                 have BK217 := n2_
                 have BK226 := n3_
                 have HB := n4_
                 clear n0_ n1_ n2_ n3_ n4_
                 obtain ⟨i045, hi045, _, hsz45, _⟩ := info_parts info27
                 obtain ⟨A45, hcut45, hA45, hC45⟩ := print_mid_of (P := Try.prog) (Value.int .i64) 0 23 27 .i64 .i64 Try.underlying23 hi045 hsz45 A0 c0 l0 a3 (wrap64 (a3 + 1)) (of_decide_eq_true (by first | (with_reducible assumption) | assumption)) (by first | omega | exact of_decide_eq_true (by first | (with_reducible assumption) | assumption)) (of_decide_eq_true (by first | (with_reducible assumption) | assumption)) HC0.out
                 have HR227 := Aside0.mk (Kd.C_of_reads (h1 := fun _ => rfl) (hA45 _ (Kd.reads_of_C HR0.out)))
                 have HC227 := Aside0.mk hC45
                 clear hA45 hC45 hi045 hsz45
                 obtain ⟨i046, hi046, _, hsz46, _⟩ := info_parts info27
                 obtain ⟨A46, hcut46, hA46, hC46⟩ := print_mid_of (P := Try.prog) (Value.int .i64) 0 23 27 .i64 .i64 Try.underlying23 hi046 hsz46 A1 c1 l1 a3 (wrap64 (a3 + 1)) (of_decide_eq_true (by first | (with_reducible assumption) | assumption)) (by first | omega | exact of_decide_eq_true (by first | (with_reducible assumption) | assumption)) (of_decide_eq_true (by first | (with_reducible assumption) | assumption)) HC1.out
                 have HR228 := Aside0.mk (Kd.C_of_reads (h1 := fun _ => rfl) (hA46 _ (Kd.reads_of_C HR1.out)))
                 have HC228 := Aside0.mk hC46
                 clear hA46 hC46 hi046 hsz46
                 have q47 : ((wrap64 (a3 + 1)) : Int) ≤ ((l2.length : Int) : Int) := of_decide_eq_true (by first | (with_reducible assumption) | assumption)
                 obtain ⟨i047, hi047, _, hsz47, _⟩ := info_parts info30
                 have hroom47 : l2.length ≤ c2 := HC2.out
                 have hC47 : Kd.C k30 _ A2 l2.length l2 := HR2.out
                 have ql47 : (a3 : Int) ≤ ((wrap64 (a3 + 1)) : Int) := of_decide_eq_true (by first | (with_reducible assumption) | assumption)
                 have q047 : (0 : Int) ≤ (a3 : Int) := of_decide_eq_true (by first | (with_reducible assumption) | assumption)
                 have hcut47 := cut_mid (P := Try.prog) 32 30 .i64 .i64 Try.underlying32 hi047 2 hsz47 A2 l2.length c2 a3 (wrap64 (a3 + 1)) q047 ql47 q47 hroom47
                 have hr47 := Kd.C_mid (lo := (a3 : Int).toNat) (hi := ((wrap64 (a3 + 1)) : Int).toNat) (c := c2) hC47 (by omega) (by omega) hroom47
                 obtain ⟨A47, hA47⟩ : ∃ A1, A1 = (if c2 = (a3 : Int).toNat then A2 else (A2 : Option Addr).map (·.add ((a3 : Int).toNat * 2))) := ⟨_, rfl⟩
                 obtain ⟨c47, hc47⟩ : ∃ c1, c1 = c2 - (a3 : Int).toNat := ⟨_, rfl⟩
                 have hy47 : y229.length = ((wrap64 (a3 + 1)) : Int).toNat - (a3 : Int).toNat := (by rw [Ny229.out, List.length_drop, List.length_take] <;> omega)
                 rw [show ((l2).take ((wrap64 (a3 + 1)) : Int).toNat).drop (a3 : Int).toNat = y229 from Ny229.out.symm] at hr47
                 replace hr47 : Kd.C k30 _ A47 y229.length y229 := (by rw [hA47]; exact hr47)
                 rw [← hy47, ← hA47, ← hc47] at hcut47
                 have HR232 := Aside0.mk hr47
                 have HC232 := Aside0.mk (show y229.length ≤ c47 from by rw [hy47, hc47]; exact Nat.sub_le_sub_right (Nat.le_trans (by omega) hroom47) _)
                 clear hr47 hC47 hroom47 hi047 hsz47 hc47
                 have KY47 := Aside0.mk hy47
                 have KA47 := Aside0.mk hA47
                 clear hy47 hA47
                 replace q47 := eq_true q47
                 refine start_ (n := 24) (S := fun w' => w'.cell? ⟨gb217, 0, none⟩ = some (.int .i64 a4_0) ∧ w'.cell? ⟨gb217, 1, none⟩ = some (.int .i64 a4_1) ∧ w'.cell? ⟨gb217, 2, none⟩ = some (.int .i64 a4_2)) (ds := []) #[false, false, false, false, false, false, false, false, false, false, false, false, false, false, false, false, false, false, false, false, false, false, false, false] (by kernel_rfl) rfl rfl ⟨(blk_cell BK217.out 0).trans rfl, (blk_cell BK217.out 1).trans rfl, (blk_cell BK217.out 2).trans rfl⟩ (fun hHeld => ?_); refine with_tabW carousellaw15_OptAlone.tab6 carousellaw15_OptAlone.bits6 (fun HT_ HW_ => ?_)
                 generalize w43.drew = w44 at HO221 HO224 BK217 BK226 HB HR227 HR228 HR232 hHeld ⊢
                 refine pure_ (i := 0) (N := some 59) (v := ?_) (a' := ?_) #[true, false, false, false, false, false, false, false, false, false, false, false, false, false, false, false, false, false, false, false, false, false, false, false] rfl rfl (any_of HT_.out (by kernel_rfl)) (fun _ _ _ h => h) (Or.inl ⟨by rfl, ?_⟩) ?_ ?_
                 rotate_left
                 ·intro w'
                  go_simp
                  with_reducible rfl
                 rotate_left
                 ·simp only [Act.put, List.setIfInBounds_toArray, List.set_cons_zero, List.set_cons_succ, i64_w, i32_w]
                  rfl
                 refine pure_ (i := 1) (N := some 60) (v := ?_) (a' := ?_) #[true, true, false, false, false, false, false, false, false, false, false, false, false, false, false, false, false, false, false, false, false, false, false, false] rfl rfl (any_of HT_.out (by kernel_rfl)) (fun _ _ _ h => h) (Or.inl ⟨by rfl, ?_⟩) ?_ ?_
                 rotate_left
                 ·intro w'
                  go_simp
                  with_reducible rfl
                 rotate_left
                 ·simp only [Act.put, List.setIfInBounds_toArray, List.set_cons_zero, List.set_cons_succ, i64_w, i32_w]
                  rfl
                 refine pure_ (i := 2) (N := some 61) (v := ?_) (a' := ?_) #[true, true, true, false, false, false, false, false, false, false, false, false, false, false, false, false, false, false, false, false, false, false, false, false] rfl rfl (any_of HT_.out (by kernel_rfl)) (fun _ _ _ h => h) (Or.inl ⟨by rfl, ?_⟩) ?_ ?_
                 rotate_left
                 ·intro w'
                  go_simp
                  with_reducible rfl
                 rotate_left
                 ·simp only [Act.put, List.setIfInBounds_toArray, List.set_cons_zero, List.set_cons_succ, i64_w, i32_w]
                  rfl
                 refine pure_ (i := 3) (N := some 62) (v := ?_) (a' := ?_) #[true, true, true, true, false, false, false, false, false, false, false, false, false, false, false, false, false, false, false, false, false, false, false, false] rfl rfl (any_of HT_.out (by kernel_rfl)) (fun _ _ _ h => h) (Or.inl ⟨by rfl, ?_⟩) ?_ ?_
                 rotate_left
                 ·intro w'
                  go_simp
                  with_reducible rfl
                 rotate_left
                 ·simp only [Act.put, List.setIfInBounds_toArray, List.set_cons_zero, List.set_cons_succ, i64_w, i32_w]
                  rfl
                 refine pure_ (i := 4) (N := some 63) (v := ?_) (a' := ?_) #[true, true, true, true, true, false, false, false, false, false, false, false, false, false, false, false, false, false, false, false, false, false, false, false] rfl rfl (any_of HT_.out (by kernel_rfl)) (fun _ _ _ h => h) (Or.inl ⟨by rfl, ?_⟩) ?_ ?_
                 rotate_left
                 ·intro w'
                  go_simp
                  with_reducible rfl
                 rotate_left
                 ·simp only [Act.put, List.setIfInBounds_toArray, List.set_cons_zero, List.set_cons_succ, i64_w, i32_w]
                  rfl
                 refine pure_ (i := 5) (N := some 64) (v := ?_) (a' := ?_) #[true, true, true, true, true, true, false, false, false, false, false, false, false, false, false, false, false, false, false, false, false, false, false, false] rfl rfl (any_of HT_.out (by kernel_rfl)) (fun _ _ _ h => h) (Or.inl ⟨by rfl, ?_⟩) ?_ ?_
                 rotate_left
                 ·intro w'
                  go_simp
                  with_reducible rfl
                 rotate_left
                 ·simp only [Act.put, List.setIfInBounds_toArray, List.set_cons_zero, List.set_cons_succ, i64_w, i32_w]
                  rfl
                 refine pure_ (i := 6) (N := some 65) (v := ?_) (a' := ?_) #[true, true, true, true, true, true, true, false, false, false, false, false, false, false, false, false, false, false, false, false, false, false, false, false] rfl rfl (any_of HT_.out (by kernel_rfl)) (fun _ _ _ h => h) (Or.inl ⟨by rfl, ?_⟩) ?_ ?_
                 rotate_left
                 ·intro w'
                  go_simp
                  with_reducible rfl
                 rotate_left
                 ·simp only [Act.put, List.setIfInBounds_toArray, List.set_cons_zero, List.set_cons_succ, i64_w, i32_w]
                  rfl
                 refine pure_ (i := 7) (N := some 66) (v := ?_) (a' := ?_) #[true, true, true, true, true, true, true, true, false, false, false, false, false, false, false, false, false, false, false, false, false, false, false, false] rfl rfl (any_of HT_.out (by kernel_rfl)) (fun _ _ _ h => h) (Or.inl ⟨by rfl, ?_⟩) ?_ ?_
                 rotate_left
                 ·intro w'
                  go_simp
                  with_reducible rfl
                 rotate_left
                 ·simp only [Act.put, List.setIfInBounds_toArray, List.set_cons_zero, List.set_cons_succ, i64_w, i32_w]
                  rfl
                 refine pure_ (i := 8) (N := some 67) (v := ?_) (a' := ?_) #[true, true, true, true, true, true, true, true, true, false, false, false, false, false, false, false, false, false, false, false, false, false, false, false] rfl rfl (any_of HT_.out (by kernel_rfl)) (fun _ _ _ h => h) (Or.inl ⟨by rfl, ?_⟩) ?_ ?_
                 rotate_left
                 ·intro w'
                  go_simp
                  with_reducible rfl
                 rotate_left
                 ·simp only [Act.put, List.setIfInBounds_toArray, List.set_cons_zero, List.set_cons_succ, i64_w, i32_w]
                  rfl
                 refine pure_ (i := 9) (N := some 68) (v := ?_) (a' := ?_) #[true, true, true, true, true, true, true, true, true, true, false, false, false, false, false, false, false, false, false, false, false, false, false, false] rfl rfl (any_of HT_.out (by kernel_rfl)) (fun _ _ _ h => h) (Or.inl ⟨by rfl, ?_⟩) ?_ ?_
                 rotate_left
                 ·intro w'
                  go_simp
                  with_reducible rfl
                 rotate_left
                 ·simp only [Act.put, List.setIfInBounds_toArray, List.set_cons_zero, List.set_cons_succ, i64_w, i32_w]
                  rfl
                 refine pure_ (i := 10) (N := some 69) (v := ?_) (a' := ?_) #[true, true, true, true, true, true, true, true, true, true, true, false, false, false, false, false, false, false, false, false, false, false, false, false] rfl rfl (any_of HT_.out (by kernel_rfl)) (fun _ _ _ h => h) (Or.inl ⟨by rfl, ?_⟩) ?_ ?_
                 rotate_left
                 ·intro w'
                  go_simp
                  with_reducible rfl
                 rotate_left
                 ·simp only [Act.put, List.setIfInBounds_toArray, List.set_cons_zero, List.set_cons_succ, i64_w, i32_w]
                  rfl
                 refine pure_ (i := 11) (N := some 70) (v := ?_) (a' := ?_) #[true, true, true, true, true, true, true, true, true, true, true, true, false, false, false, false, false, false, false, false, false, false, false, false] rfl rfl (any_of HT_.out (by kernel_rfl)) (fun _ _ _ h => h) (Or.inl ⟨by rfl, ?_⟩) ?_ ?_
                 rotate_left
                 ·intro w'
                  go_simp
                  with_reducible rfl
                 rotate_left
                 ·simp only [Act.put, List.setIfInBounds_toArray, List.set_cons_zero, List.set_cons_succ, i64_w, i32_w]
                  rfl
                 refine pure_ (i := 12) (N := some 71) (v := ?_) (a' := ?_) #[true, true, true, true, true, true, true, true, true, true, true, true, true, false, false, false, false, false, false, false, false, false, false, false] rfl rfl (any_of HT_.out (by kernel_rfl)) (fun _ _ _ h => h) (Or.inl ⟨by rfl, ?_⟩) ?_ ?_
                 rotate_left
                 ·intro w'
                  go_simp
                  with_reducible rfl
                 rotate_left
                 ·simp only [Act.put, List.setIfInBounds_toArray, List.set_cons_zero, List.set_cons_succ, i64_w, i32_w]
                  rfl
                 refine pure_ (i := 13) (N := some 72) (v := ?_) (a' := ?_) #[true, true, true, true, true, true, true, true, true, true, true, true, true, true, false, false, false, false, false, false, false, false, false, false] rfl rfl (any_of HT_.out (by kernel_rfl)) (fun _ _ _ h => h) (Or.inl ⟨by rfl, ?_⟩) ?_ ?_
                 rotate_left
                 ·intro w'
                  go_simp
                  with_reducible rfl
                 rotate_left
                 ·simp only [Act.put, List.setIfInBounds_toArray, List.set_cons_zero, List.set_cons_succ, i64_w, i32_w]
                  rfl
                 refine pure_ (i := 14) (N := some 73) (v := ?_) (a' := ?_) #[true, true, true, true, true, true, true, true, true, true, true, true, true, true, true, false, false, false, false, false, false, false, false, false] rfl rfl (any_of HT_.out (by kernel_rfl)) (fun _ _ _ h => h) (Or.inl ⟨by rfl, ?_⟩) ?_ ?_
                 rotate_left
                 ·intro w'
                  go_simp
                  with_reducible rfl
                 rotate_left
                 ·simp only [Act.put, List.setIfInBounds_toArray, List.set_cons_zero, List.set_cons_succ, i64_w, i32_w]
                  rfl
                 refine pure_ (i := 15) (N := some 74) (v := ?_) (a' := ?_) #[true, true, true, true, true, true, true, true, true, true, true, true, true, true, true, true, false, false, false, false, false, false, false, false] rfl rfl (any_of HT_.out (by kernel_rfl)) (fun _ _ _ h => h) (Or.inl ⟨by rfl, ?_⟩) ?_ ?_
                 rotate_left
                 ·intro w'
                  go_simp
                  with_reducible rfl
                 rotate_left
                 ·simp only [Act.put, List.setIfInBounds_toArray, List.set_cons_zero, List.set_cons_succ, i64_w, i32_w]
                  rfl
                 refine take_ (i := 16) (N := some 75) (v := ?_) (a' := ?_) #[true, true, true, true, true, true, true, true, true, true, true, true, true, true, true, true, true, false, false, false, false, false, false, false] rfl rfl (take_ofW HT_.out HW_.out (by kernel_rfl)) (fun _ _ _ h => h) (Or.inl ⟨by rfl, ?_⟩) hHeld ?_ ?_
                 rotate_left
                 ·rintro w' ⟨s0, s1, s2⟩
                  go_simp
                  with_reducible rfl
                 rotate_left
                 ·simp only [Act.put, List.setIfInBounds_toArray, List.set_cons_zero, List.set_cons_succ, i64_w, i32_w]
                  rfl
                 refine join_ (σ := Value × Value × Nat) 2 #[true, true, true, true, true, true, true, true, true, true, true, true, true, true, true, true, true, true, true, true, true, true, false, false] (fun s_ => [(76, .tuple #[.agg #[s_.1, s_.2.1], .int .i64 t239]), (13, .pointer (some ⟨s_.2.2, 0, none⟩)), (58, .tuple #[.agg #[s_.1, s_.2.1], .int .i64 t239]), (77, .agg #[s_.1, s_.2.1]), (78, .int .i64 t239)]) (fun s_ w' => (w'.cell? ⟨gb217, 0, none⟩ = some (.int .i64 a4_0) ∧ w'.cell? ⟨gb217, 1, none⟩ = some (.int .i64 a4_1) ∧ w'.cell? ⟨gb217, 2, none⟩ = some (.int .i64 a4_2)) ∧ (Kd.R (Kd.int .i64) 27 w' w.heap.size (fun k_ => some k_ ≠ (.slice Ao42 t222.length co42 : Value).ownBlock ∧ some k_ ≠ (s_.1 : Value).ownBlock ∧ some k_ ≠ (s_.2.1 : Value).ownBlock) (.slice Ao39 t219.length co39) t219) ∧ (Kd.R (Kd.int .i64) 27 w' w.heap.size (fun k_ => some k_ ≠ (.slice Ao39 t219.length co39 : Value).ownBlock ∧ some k_ ≠ (s_.1 : Value).ownBlock ∧ some k_ ≠ (s_.2.1 : Value).ownBlock) (.slice Ao42 t222.length co42) t222) ∧ (Kd.R (Kd.int .i64) 27 w' w.heap.size (fun k_ => some k_ ≠ (.slice Ao39 t219.length co39 : Value).ownBlock ∧ some k_ ≠ (.slice Ao42 t222.length co42 : Value).ownBlock ∧ some k_ ≠ (s_.2.1 : Value).ownBlock) s_.1 t233) ∧ (Kd.R (Kd.int .i64) 27 w' w.heap.size (fun k_ => some k_ ≠ (.slice Ao39 t219.length co39 : Value).ownBlock ∧ some k_ ≠ (.slice Ao42 t222.length co42 : Value).ownBlock ∧ some k_ ≠ (s_.1 : Value).ownBlock) s_.2.1 t236) ∧ (w'.heap[gb217]? = some (.cells #[.int .i64 a4_0, .int .i64 a4_1, .int .i64 a4_2] 37 (0, 0))) ∧ (w'.heap[gb226]? = some (.cells #[.slice Ao39 t219.length co39, .slice Ao42 t222.length co42] 25 (0, 0))) ∧ (w'.heap[s_.2.2]? = some (.cells #[.slice none 0 0, .slice none 0 0] 25 (0, 0))) ∧ (w.heap.size ≤ s_.2.2) ∧ (w.heap.size ≤ s_.2.2) ∧ (gb217 ≠ s_.2.2) ∧ (s_.2.2 ≠ gb217) ∧ (gb226 ≠ s_.2.2) ∧ (s_.2.2 ≠ gb226) ∧ (Below w.heap.size w w')) ?_ ?_
                 rotate_left
                 ·intro hCont
                  refine two_ (i := 17) (j := 21) (Ni := some 76) (Nj := some 13) #[true, true, true, true, true, true, true, true, true, true, true, true, true, true, true, true, true, true, false, false, false, false, false, false] #[true, true, true, true, true, true, true, true, true, true, true, true, true, true, true, true, true, false, false, false, false, true, false, false] rfl rfl rfl rfl (two_of HT_.out (by kernel_rfl)) (by decide) (by decide) (fun K hK => ?_) (fun K hK => ?_)
                  ·skip
                   refine goes_ Try.func12 (by kernel_rfl) rfl #[.agg #[.slice A45 ((l0.take ((wrap64 (a3 + 1)) : Int).toNat).drop (a3 : Int).toNat).length (c0 - a3.toNat), .slice A46 ((l1.take ((wrap64 (a3 + 1)) : Int).toNat).drop (a3 : Int).toNat).length (c1 - a3.toNat)], .slice A47 y229.length c47, .int .i64 3, .agg #[.int .i64 a4_0, .int .i64 a4_1, .int .i64 a4_2]] (by rfl) rfl rfl (by (try simp only [List.map_toArray, List.map_cons, List.map_nil]); first | done | ((try rw [show ((l0.take ((wrap64 (a3 + 1)) : Int).toNat).drop (a3 : Int).toNat).length = ((wrap64 (a3 + 1)).toNat - a3.toNat) from (by rw [List.length_drop, List.length_take]; have h_ : ((wrap64 (a3 + 1)) : Int) ≤ (l0.length : Int) := of_decide_eq_true (by first | (with_reducible assumption) | assumption); omega)]); (try rw [show ((l1.take ((wrap64 (a3 + 1)) : Int).toNat).drop (a3 : Int).toNat).length = ((wrap64 (a3 + 1)).toNat - a3.toNat) from (by rw [List.length_drop, List.length_take]; have h_ : ((wrap64 (a3 + 1)) : Int) ≤ (l1.length : Int) := of_decide_eq_true (by first | (with_reducible assumption) | assumption); omega)]); rfl) | (rw [show ((l0.take ((wrap64 (a3 + 1)) : Int).toNat).drop (a3 : Int).toNat).length = ((wrap64 (a3 + 1)).toNat - a3.toNat) from (by rw [List.length_drop, List.length_take]; have h_ : ((wrap64 (a3 + 1)) : Int) ≤ (l0.length : Int) := of_decide_eq_true (by first | (with_reducible assumption) | assumption); omega)] <;> rfl) | (rw [show ((l1.take ((wrap64 (a3 + 1)) : Int).toNat).drop (a3 : Int).toNat).length = ((wrap64 (a3 + 1)).toNat - a3.toNat) from (by rw [List.length_drop, List.length_take]; have h_ : ((wrap64 (a3 + 1)) : Int) ≤ (l1.length : Int) := of_decide_eq_true (by first | (with_reducible assumption) | assumption); omega)] <;> rfl) | rfl | (simp only [List.length_drop, List.length_take]; rfl)) ?_
                   with_reducible refine (opt_Apply.calls kj7 _ _ ((l0.take ((wrap64 (a3 + 1)) : Int).toNat).drop (a3 : Int).toNat) _ _ ((l1.take ((wrap64 (a3 + 1)) : Int).toNat).drop (a3 : Int).toNat) _ _ y229 3 a4_0 a4_1 a4_2 t233 t236 t239 _ ?side1 ?side2 ?side3 ?side4 ?side5 ?side6 A28.out).mono ?_
                   (case side1 => repeat (first | exact (Kd.C_below HR227.out HB.out) | (with_reducible refine Kd.C_alloc ?_ _) | (with_reducible refine Kd.C_drewN ?_ _) | (with_reducible refine Kd.C_drew ?_)))
                   (case side2 => exact HC227.out)
                   (case side3 => repeat (first | exact (Kd.C_below HR228.out HB.out) | (with_reducible refine Kd.C_alloc ?_ _) | (with_reducible refine Kd.C_drewN ?_ _) | (with_reducible refine Kd.C_drew ?_)))
                   (case side4 => exact HC228.out)
                   (case side5 => repeat (first | exact (Kd.C_below HR232.out HB.out) | (with_reducible refine Kd.C_alloc ?_ _) | (with_reducible refine Kd.C_drewN ?_ _) | (with_reducible refine Kd.C_drew ?_)))
                   (case side6 => exact HC232.out)
                   rintro e w48 ⟨v234, v237, rfl, ho0, ho1, hb⟩
                   refine ⟨_, rfl, ?_⟩
                   have n0_ := Aside0.mk (Kd.R_mono (Kd.R_told (Kd.R_told (Kd.R_old (by (with_reducible repeat (first | apply Kd.R_alloc | apply Kd.R_drewN | apply Kd.R_drew)); exact HO221.out) hb) (Kd.R_base ho0)) (Kd.R_base ho1)) (fun _ h_ => h_.1))
                   have n1_ := Aside0.mk (Kd.R_mono (Kd.R_told (Kd.R_told (Kd.R_old (by (with_reducible repeat (first | apply Kd.R_alloc | apply Kd.R_drewN | apply Kd.R_drew)); exact HO224.out) hb) (Kd.R_base ho0)) (Kd.R_base ho1)) (fun _ h_ => h_.1))
                   have n2_ := Aside0.mk (Kd.R_lower (Kd.R_new' (Kd.R_new' ho0 (Kd.R_lt (by (with_reducible repeat (first | apply Kd.R_alloc | apply Kd.R_drewN | apply Kd.R_drew)); exact HO221.out))) (Kd.R_lt (by (with_reducible repeat (first | apply Kd.R_alloc | apply Kd.R_drewN | apply Kd.R_drew)); exact HO224.out))) (below_size (by repeat (first | (with_reducible first | exact HB.out | apply below_alloc | apply pw_below_drewN | apply below_drew1 | refine below_set ?_ GE217.out | refine below_set ?_ GE226.out) | exact HB.out))))
                   have n3_ := Aside0.mk (Kd.R_lower (Kd.R_new' (Kd.R_new' ho1 (Kd.R_lt (by (with_reducible repeat (first | apply Kd.R_alloc | apply Kd.R_drewN | apply Kd.R_drew)); exact HO221.out))) (Kd.R_lt (by (with_reducible repeat (first | apply Kd.R_alloc | apply Kd.R_drewN | apply Kd.R_drew)); exact HO224.out))) (below_size (by repeat (first | (with_reducible first | exact HB.out | apply below_alloc | apply pw_below_drewN | apply below_drew1 | refine below_set ?_ GE217.out | refine below_set ?_ GE226.out) | exact HB.out))))
                   have n4_ := Aside0.mk (blk_below (g := gb217) (o := .cells #[.int .i64 a4_0, .int .i64 a4_1, .int .i64 a4_2] 37 (0, 0)) (by (with_reducible repeat (first | refine blk_drewN ?_ _ | refine blk_drew ?_ | refine blk_alloc ?_ _)); exact BK217.out) hb)
                   have n5_ := Aside0.mk (blk_below (g := gb226) (o := .cells #[.slice Ao39 t219.length co39, .slice Ao42 t222.length co42] 25 (0, 0)) (by (with_reducible repeat (first | refine blk_drewN ?_ _ | refine blk_drew ?_ | refine blk_alloc ?_ _)); exact BK226.out) hb)
                   have n6_ := Aside0.mk (below_step (by repeat (first | (with_reducible first | exact HB.out | apply below_alloc | apply pw_below_drewN | apply below_drew1 | refine below_set ?_ GE217.out | refine below_set ?_ GE226.out) | exact HB.out)) hb)
                   clear HO221
                   clear HO224
                   clear BK217
                   clear BK226
                   clear HB
                   have HO221 := n0_
                   have HO224 := n1_
                   have HO235 := n2_
                   have HO238 := n3_
                   have BK217 := n4_
                   have BK226 := n5_
                   have HB := n6_
                   clear n0_ n1_ n2_ n3_ n4_ n5_ n6_
                   (try clear hb)
                   (try clear hb2)
                   (try clear hk)
                   (try clear hi)
                   (try clear ho0)
                   (try clear ho1)
                   refine hK.out _ _ ⟨(blk_cell BK217.out 0).trans rfl, (blk_cell BK217.out 1).trans rfl, (blk_cell BK217.out 2).trans rfl⟩ (fun hHeld => ?_)
                   clear hK K
                   refine norm_ (a' := ?_) ?_ ?_
                   rotate_left
                   ·show Act.put _ (some 76) _ = _
                    simp only [Act.put, List.setIfInBounds_toArray, List.set_cons_zero, List.set_cons_succ, i64_w, i32_w]
                    rfl
                   refine pure_ (i := 18) (N := some 58) (v := ?_) (a' := ?_) #[true, true, true, true, true, true, true, true, true, true, true, true, true, true, true, true, true, true, true, false, false, false, false, false] rfl rfl (any_of HT_.out (by kernel_rfl)) (fun _ _ _ h => h) (Or.inl ⟨by rfl, ?_⟩) ?_ ?_
                   rotate_left
                   ·intro w'
                    go_simp
                    with_reducible rfl
                   rotate_left
                   ·simp only [Act.put, List.setIfInBounds_toArray, List.set_cons_zero, List.set_cons_succ, i64_w, i32_w]
                    rfl
                   refine pure_ (i := 19) (N := some 77) (v := ?_) (a' := ?_) #[true, true, true, true, true, true, true, true, true, true, true, true, true, true, true, true, true, true, true, true, false, false, false, false] rfl rfl (any_of HT_.out (by kernel_rfl)) (fun _ _ _ h => h) (Or.inl ⟨by rfl, ?_⟩) ?_ ?_
                   rotate_left
                   ·intro w'
                    go_simp
                    with_reducible rfl
                   rotate_left
                   ·simp only [Act.put, List.setIfInBounds_toArray, List.set_cons_zero, List.set_cons_succ, i64_w, i32_w]
                    rfl
                   refine pure_ (i := 20) (N := some 78) (v := ?_) (a' := ?_) #[true, true, true, true, true, true, true, true, true, true, true, true, true, true, true, true, true, true, true, true, true, false, false, false] rfl rfl (any_of HT_.out (by kernel_rfl)) (fun _ _ _ h => h) (Or.inl ⟨by rfl, ?_⟩) ?_ ?_
                   rotate_left
                   ·intro w'
                    go_simp
                    with_reducible rfl
                   rotate_left
                   ·simp only [Act.put, List.setIfInBounds_toArray, List.set_cons_zero, List.set_cons_succ, i64_w, i32_w]
                    rfl
                   refine one_ (i := 21) (N := some 13) #[true, true, true, true, true, true, true, true, true, true, true, true, true, true, true, true, true, true, true, true, true, true, false, false] rfl rfl (one_of HT_.out (by kernel_rfl)) (by decide) (fun K hK => ?_)
                   refine box_step ?hg (N := 13) ?hd (cs := #[.slice none 0 0, .slice none 0 0]) (t := 25) ?hr ?_; (case hd => rfl); (case hg => rfl); (case hr => first | (go_simp; done) | (go_simp; rfl))
                   intro gb240 hg w49 hbox hb
                   have n0_ := Aside0.mk (Kd.R_below (by (with_reducible repeat (first | apply Kd.R_alloc | apply Kd.R_drewN | apply Kd.R_drew)); exact HO221.out) hb)
                   have n1_ := Aside0.mk (Kd.R_below (by (with_reducible repeat (first | apply Kd.R_alloc | apply Kd.R_drewN | apply Kd.R_drew)); exact HO224.out) hb)
                   have n2_ := Aside0.mk (Kd.R_below (by (with_reducible repeat (first | apply Kd.R_alloc | apply Kd.R_drewN | apply Kd.R_drew)); exact HO235.out) hb)
                   have n3_ := Aside0.mk (Kd.R_below (by (with_reducible repeat (first | apply Kd.R_alloc | apply Kd.R_drewN | apply Kd.R_drew)); exact HO238.out) hb)
                   have n4_ := Aside0.mk (blk_below (g := gb217) (o := .cells #[.int .i64 a4_0, .int .i64 a4_1, .int .i64 a4_2] 37 (0, 0)) (by (with_reducible repeat (first | refine blk_drewN ?_ _ | refine blk_drew ?_ | refine blk_alloc ?_ _)); exact BK217.out) hb)
                   have n5_ := Aside0.mk (blk_below (g := gb226) (o := .cells #[.slice Ao39 t219.length co39, .slice Ao42 t222.length co42] 25 (0, 0)) (by (with_reducible repeat (first | refine blk_drewN ?_ _ | refine blk_drew ?_ | refine blk_alloc ?_ _)); exact BK226.out) hb)
                   have n6_ := Aside0.mk (below_step (by repeat (first | (with_reducible first | exact HB.out | apply below_alloc | apply pw_below_drewN | apply below_drew1 | refine below_set ?_ GE217.out | refine below_set ?_ GE226.out) | exact HB.out)) hb)
                   have n7_ := Aside0.mk (hbox)
                   have n8_ := Aside0.mk ((by rw [hg]; exact (below_size (by repeat (first | (with_reducible first | exact HB.out | apply below_alloc | apply pw_below_drewN | apply below_drew1 | refine below_set ?_ GE217.out | refine below_set ?_ GE226.out) | exact HB.out))) : w.heap.size ≤ gb240))
                   have n9_ := Aside0.mk ((by rw [hg]; exact (below_size (by repeat (first | (with_reducible first | exact HB.out | apply below_alloc | apply pw_below_drewN | apply below_drew1 | refine below_set ?_ GE217.out | refine below_set ?_ GE226.out) | exact HB.out))) : w.heap.size ≤ gb240))
                   have n10_ := Aside0.mk ((by rw [hg]; exact Nat.ne_of_lt (blk_lt (g := gb217) (o := .cells #[.int .i64 a4_0, .int .i64 a4_1, .int .i64 a4_2] 37 (0, 0)) (by (with_reducible repeat (first | refine blk_drewN ?_ _ | refine blk_drew ?_ | refine blk_alloc ?_ _)); exact BK217.out)) : gb217 ≠ gb240))
                   have n11_ := Aside0.mk ((by rw [hg]; exact Nat.ne_of_gt (blk_lt (g := gb217) (o := .cells #[.int .i64 a4_0, .int .i64 a4_1, .int .i64 a4_2] 37 (0, 0)) (by (with_reducible repeat (first | refine blk_drewN ?_ _ | refine blk_drew ?_ | refine blk_alloc ?_ _)); exact BK217.out)) : gb240 ≠ gb217))
                   have n12_ := Aside0.mk ((by rw [hg]; exact Nat.ne_of_lt (blk_lt (g := gb226) (o := .cells #[.slice Ao39 t219.length co39, .slice Ao42 t222.length co42] 25 (0, 0)) (by (with_reducible repeat (first | refine blk_drewN ?_ _ | refine blk_drew ?_ | refine blk_alloc ?_ _)); exact BK226.out)) : gb226 ≠ gb240))
                   have n13_ := Aside0.mk ((by rw [hg]; exact Nat.ne_of_gt (blk_lt (g := gb226) (o := .cells #[.slice Ao39 t219.length co39, .slice Ao42 t222.length co42] 25 (0, 0)) (by (with_reducible repeat (first | refine blk_drewN ?_ _ | refine blk_drew ?_ | refine blk_alloc ?_ _)); exact BK226.out)) : gb240 ≠ gb226))
                   clear HO221
                   clear HO224
                   clear HO235
                   clear HO238
                   clear BK217
                   clear BK226
                   clear HB
                   have HO221 := n0_
                   have HO224 := n1_
                   have HO235 := n2_
                   have HO238 := n3_
                   have BK217 := n4_
                   have BK226 := n5_
                   have HB := n6_
                   have BK240 := n7_
                   have GW240 := n8_
                   have GE240 := n9_
                   have NB217_240 := n10_
                   have NB240_217 := n11_
                   have NB226_240 := n12_
                   have NB240_226 := n13_
                   clear n0_ n1_ n2_ n3_ n4_ n5_ n6_ n7_ n8_ n9_ n10_ n11_ n12_ n13_
                   clear hb hbox hg
                   refine hK.out _ _ ⟨(blk_cell BK217.out 0).trans rfl, (blk_cell BK217.out 1).trans rfl, (blk_cell BK217.out 2).trans rfl⟩ (fun hHeld => ?_)
                   clear hK K
                   refine norm_ (a' := ?_) ?_ ?_
                   rotate_left
                   ·show Act.put _ (some 13) _ = _
                    simp only [Act.put, List.setIfInBounds_toArray, List.set_cons_zero, List.set_cons_succ, i64_w, i32_w]
                    rfl
                   exact norm_ (by simp only [putAll, Act.put, List.setIfInBounds_toArray, List.set_cons_zero, List.set_cons_succ]) (hCont (v234, v237, gb240) _ ⟨hHeld, (by (with_reducible repeat (first | apply Kd.R_alloc | apply Kd.R_drewN | apply Kd.R_drew)); exact Kd.R_mono HO221.out (fun _ hk => ⟨hk.1.1, ⟨hk.1.2, hk.2⟩⟩)), (by (with_reducible repeat (first | apply Kd.R_alloc | apply Kd.R_drewN | apply Kd.R_drew)); exact Kd.R_mono HO224.out (fun _ hk => ⟨hk.1.1, ⟨hk.1.2, hk.2⟩⟩)), (by (with_reducible repeat (first | apply Kd.R_alloc | apply Kd.R_drewN | apply Kd.R_drew)); exact Kd.R_mono HO235.out (fun _ hk => ⟨hk.1.2, ⟨hk.2, hk.1.1⟩⟩)), (by (with_reducible repeat (first | apply Kd.R_alloc | apply Kd.R_drewN | apply Kd.R_drew)); exact Kd.R_mono HO238.out (fun _ hk => ⟨hk.1.2, ⟨hk.2, hk.1.1⟩⟩)), (by (with_reducible repeat (first | refine blk_drewN ?_ _ | refine blk_drew ?_ | refine blk_alloc ?_ _)); exact BK217.out), (by (with_reducible repeat (first | refine blk_drewN ?_ _ | refine blk_drew ?_ | refine blk_alloc ?_ _)); exact BK226.out), (by (with_reducible repeat (first | refine blk_drewN ?_ _ | refine blk_drew ?_ | refine blk_alloc ?_ _)); exact BK240.out), GW240.out, GE240.out, NB217_240.out, NB240_217.out, NB226_240.out, NB240_226.out, (by repeat (first | (with_reducible first | exact HB.out | apply below_alloc | apply pw_below_drewN | apply below_drew1 | refine below_set ?_ GE217.out | refine below_set ?_ GE226.out | refine below_set ?_ GE240.out) | exact HB.out))⟩)
                  ·skip
                   refine box_step ?hg (N := 13) ?hd (cs := #[.slice none 0 0, .slice none 0 0]) (t := 25) ?hr ?_; (case hd => rfl); (case hg => rfl); (case hr => first | (go_simp; done) | (go_simp; rfl))
                   intro gb240 hg w48 hbox hb
                   have n0_ := Aside0.mk (Kd.R_below (by (with_reducible repeat (first | apply Kd.R_alloc | apply Kd.R_drewN | apply Kd.R_drew)); exact HO221.out) hb)
                   have n1_ := Aside0.mk (Kd.R_below (by (with_reducible repeat (first | apply Kd.R_alloc | apply Kd.R_drewN | apply Kd.R_drew)); exact HO224.out) hb)
                   have n2_ := Aside0.mk (blk_below (g := gb217) (o := .cells #[.int .i64 a4_0, .int .i64 a4_1, .int .i64 a4_2] 37 (0, 0)) (by (with_reducible repeat (first | refine blk_drewN ?_ _ | refine blk_drew ?_ | refine blk_alloc ?_ _)); exact BK217.out) hb)
                   have n3_ := Aside0.mk (blk_below (g := gb226) (o := .cells #[.slice Ao39 t219.length co39, .slice Ao42 t222.length co42] 25 (0, 0)) (by (with_reducible repeat (first | refine blk_drewN ?_ _ | refine blk_drew ?_ | refine blk_alloc ?_ _)); exact BK226.out) hb)
                   have n4_ := Aside0.mk (below_step (by repeat (first | (with_reducible first | exact HB.out | apply below_alloc | apply pw_below_drewN | apply below_drew1 | refine below_set ?_ GE217.out | refine below_set ?_ GE226.out) | exact HB.out)) hb)
                   have n5_ := Aside0.mk (hbox)
                   have n6_ := Aside0.mk ((by rw [hg]; exact (below_size (by repeat (first | (with_reducible first | exact HB.out | apply below_alloc | apply pw_below_drewN | apply below_drew1 | refine below_set ?_ GE217.out | refine below_set ?_ GE226.out) | exact HB.out))) : w.heap.size ≤ gb240))
                   have n7_ := Aside0.mk ((by rw [hg]; exact (below_size (by repeat (first | (with_reducible first | exact HB.out | apply below_alloc | apply pw_below_drewN | apply below_drew1 | refine below_set ?_ GE217.out | refine below_set ?_ GE226.out) | exact HB.out))) : w.heap.size ≤ gb240))
                   have n8_ := Aside0.mk ((by rw [hg]; exact Nat.ne_of_lt (blk_lt (g := gb217) (o := .cells #[.int .i64 a4_0, .int .i64 a4_1, .int .i64 a4_2] 37 (0, 0)) (by (with_reducible repeat (first | refine blk_drewN ?_ _ | refine blk_drew ?_ | refine blk_alloc ?_ _)); exact BK217.out)) : gb217 ≠ gb240))
                   have n9_ := Aside0.mk ((by rw [hg]; exact Nat.ne_of_gt (blk_lt (g := gb217) (o := .cells #[.int .i64 a4_0, .int .i64 a4_1, .int .i64 a4_2] 37 (0, 0)) (by (with_reducible repeat (first | refine blk_drewN ?_ _ | refine blk_drew ?_ | refine blk_alloc ?_ _)); exact BK217.out)) : gb240 ≠ gb217))
                   have n10_ := Aside0.mk ((by rw [hg]; exact Nat.ne_of_lt (blk_lt (g := gb226) (o := .cells #[.slice Ao39 t219.length co39, .slice Ao42 t222.length co42] 25 (0, 0)) (by (with_reducible repeat (first | refine blk_drewN ?_ _ | refine blk_drew ?_ | refine blk_alloc ?_ _)); exact BK226.out)) : gb226 ≠ gb240))
                   have n11_ := Aside0.mk ((by rw [hg]; exact Nat.ne_of_gt (blk_lt (g := gb226) (o := .cells #[.slice Ao39 t219.length co39, .slice Ao42 t222.length co42] 25 (0, 0)) (by (with_reducible repeat (first | refine blk_drewN ?_ _ | refine blk_drew ?_ | refine blk_alloc ?_ _)); exact BK226.out)) : gb240 ≠ gb226))
                   clear HO221
                   clear HO224
                   clear BK217
                   clear BK226
                   clear HB
                   have HO221 := n0_
                   have HO224 := n1_
                   have BK217 := n2_
                   have BK226 := n3_
                   have HB := n4_
                   have BK240 := n5_
                   have GW240 := n6_
                   have GE240 := n7_
                   have NB217_240 := n8_
                   have NB240_217 := n9_
                   have NB226_240 := n10_
                   have NB240_226 := n11_
                   clear n0_ n1_ n2_ n3_ n4_ n5_ n6_ n7_ n8_ n9_ n10_ n11_
                   clear hb hbox hg
                   refine hK.out _ _ ⟨(blk_cell BK217.out 0).trans rfl, (blk_cell BK217.out 1).trans rfl, (blk_cell BK217.out 2).trans rfl⟩ (fun hHeld => ?_)
                   clear hK K
                   refine norm_ (a' := ?_) ?_ ?_
                   rotate_left
                   ·show Act.put _ (some 13) _ = _
                    simp only [Act.put, List.setIfInBounds_toArray, List.set_cons_zero, List.set_cons_succ, i64_w, i32_w]
                    rfl
                   refine one_ (i := 17) (N := some 76) #[true, true, true, true, true, true, true, true, true, true, true, true, true, true, true, true, true, true, false, false, false, true, false, false] rfl rfl (one_of HT_.out (by kernel_rfl)) (by decide) (fun K hK => ?_)
                   refine goes_ Try.func12 (by kernel_rfl) rfl #[.agg #[.slice A45 ((l0.take ((wrap64 (a3 + 1)) : Int).toNat).drop (a3 : Int).toNat).length (c0 - a3.toNat), .slice A46 ((l1.take ((wrap64 (a3 + 1)) : Int).toNat).drop (a3 : Int).toNat).length (c1 - a3.toNat)], .slice A47 y229.length c47, .int .i64 3, .agg #[.int .i64 a4_0, .int .i64 a4_1, .int .i64 a4_2]] (by rfl) rfl rfl (by (try simp only [List.map_toArray, List.map_cons, List.map_nil]); first | done | ((try rw [show ((l0.take ((wrap64 (a3 + 1)) : Int).toNat).drop (a3 : Int).toNat).length = ((wrap64 (a3 + 1)).toNat - a3.toNat) from (by rw [List.length_drop, List.length_take]; have h_ : ((wrap64 (a3 + 1)) : Int) ≤ (l0.length : Int) := of_decide_eq_true (by first | (with_reducible assumption) | assumption); omega)]); (try rw [show ((l1.take ((wrap64 (a3 + 1)) : Int).toNat).drop (a3 : Int).toNat).length = ((wrap64 (a3 + 1)).toNat - a3.toNat) from (by rw [List.length_drop, List.length_take]; have h_ : ((wrap64 (a3 + 1)) : Int) ≤ (l1.length : Int) := of_decide_eq_true (by first | (with_reducible assumption) | assumption); omega)]); rfl) | (rw [show ((l0.take ((wrap64 (a3 + 1)) : Int).toNat).drop (a3 : Int).toNat).length = ((wrap64 (a3 + 1)).toNat - a3.toNat) from (by rw [List.length_drop, List.length_take]; have h_ : ((wrap64 (a3 + 1)) : Int) ≤ (l0.length : Int) := of_decide_eq_true (by first | (with_reducible assumption) | assumption); omega)] <;> rfl) | (rw [show ((l1.take ((wrap64 (a3 + 1)) : Int).toNat).drop (a3 : Int).toNat).length = ((wrap64 (a3 + 1)).toNat - a3.toNat) from (by rw [List.length_drop, List.length_take]; have h_ : ((wrap64 (a3 + 1)) : Int) ≤ (l1.length : Int) := of_decide_eq_true (by first | (with_reducible assumption) | assumption); omega)] <;> rfl) | rfl | (simp only [List.length_drop, List.length_take]; rfl)) ?_
                   with_reducible refine (opt_Apply.calls kj7 _ _ ((l0.take ((wrap64 (a3 + 1)) : Int).toNat).drop (a3 : Int).toNat) _ _ ((l1.take ((wrap64 (a3 + 1)) : Int).toNat).drop (a3 : Int).toNat) _ _ y229 3 a4_0 a4_1 a4_2 t233 t236 t239 _ ?side1 ?side2 ?side3 ?side4 ?side5 ?side6 A28.out).mono ?_
                   (case side1 => repeat (first | exact (Kd.C_below HR227.out HB.out) | (with_reducible refine Kd.C_alloc ?_ _) | (with_reducible refine Kd.C_drewN ?_ _) | (with_reducible refine Kd.C_drew ?_)))
                   (case side2 => exact HC227.out)
                   (case side3 => repeat (first | exact (Kd.C_below HR228.out HB.out) | (with_reducible refine Kd.C_alloc ?_ _) | (with_reducible refine Kd.C_drewN ?_ _) | (with_reducible refine Kd.C_drew ?_)))
                   (case side4 => exact HC228.out)
                   (case side5 => repeat (first | exact (Kd.C_below HR232.out HB.out) | (with_reducible refine Kd.C_alloc ?_ _) | (with_reducible refine Kd.C_drewN ?_ _) | (with_reducible refine Kd.C_drew ?_)))
                   (case side6 => exact HC232.out)
                   rintro e w49 ⟨v234, v237, rfl, ho0, ho1, hb⟩
                   refine ⟨_, rfl, ?_⟩
                   have n0_ := Aside0.mk (Kd.R_mono (Kd.R_told (Kd.R_told (Kd.R_old (by (with_reducible repeat (first | apply Kd.R_alloc | apply Kd.R_drewN | apply Kd.R_drew)); exact HO221.out) hb) (Kd.R_base ho0)) (Kd.R_base ho1)) (fun _ h_ => h_.1))
                   have n1_ := Aside0.mk (Kd.R_mono (Kd.R_told (Kd.R_told (Kd.R_old (by (with_reducible repeat (first | apply Kd.R_alloc | apply Kd.R_drewN | apply Kd.R_drew)); exact HO224.out) hb) (Kd.R_base ho0)) (Kd.R_base ho1)) (fun _ h_ => h_.1))
                   have n2_ := Aside0.mk (Kd.R_lower (Kd.R_new' (Kd.R_new' ho0 (Kd.R_lt (by (with_reducible repeat (first | apply Kd.R_alloc | apply Kd.R_drewN | apply Kd.R_drew)); exact HO221.out))) (Kd.R_lt (by (with_reducible repeat (first | apply Kd.R_alloc | apply Kd.R_drewN | apply Kd.R_drew)); exact HO224.out))) (below_size (by repeat (first | (with_reducible first | exact HB.out | apply below_alloc | apply pw_below_drewN | apply below_drew1 | refine below_set ?_ GE217.out | refine below_set ?_ GE226.out | refine below_set ?_ GE240.out) | exact HB.out))))
                   have n3_ := Aside0.mk (Kd.R_lower (Kd.R_new' (Kd.R_new' ho1 (Kd.R_lt (by (with_reducible repeat (first | apply Kd.R_alloc | apply Kd.R_drewN | apply Kd.R_drew)); exact HO221.out))) (Kd.R_lt (by (with_reducible repeat (first | apply Kd.R_alloc | apply Kd.R_drewN | apply Kd.R_drew)); exact HO224.out))) (below_size (by repeat (first | (with_reducible first | exact HB.out | apply below_alloc | apply pw_below_drewN | apply below_drew1 | refine below_set ?_ GE217.out | refine below_set ?_ GE226.out | refine below_set ?_ GE240.out) | exact HB.out))))
                   have n4_ := Aside0.mk (blk_below (g := gb217) (o := .cells #[.int .i64 a4_0, .int .i64 a4_1, .int .i64 a4_2] 37 (0, 0)) (by (with_reducible repeat (first | refine blk_drewN ?_ _ | refine blk_drew ?_ | refine blk_alloc ?_ _)); exact BK217.out) hb)
                   have n5_ := Aside0.mk (blk_below (g := gb226) (o := .cells #[.slice Ao39 t219.length co39, .slice Ao42 t222.length co42] 25 (0, 0)) (by (with_reducible repeat (first | refine blk_drewN ?_ _ | refine blk_drew ?_ | refine blk_alloc ?_ _)); exact BK226.out) hb)
                   have n6_ := Aside0.mk (blk_below (g := gb240) (o := .cells #[.slice none 0 0, .slice none 0 0] 25 (0, 0)) (by (with_reducible repeat (first | refine blk_drewN ?_ _ | refine blk_drew ?_ | refine blk_alloc ?_ _)); exact BK240.out) hb)
                   have n7_ := Aside0.mk (below_step (by repeat (first | (with_reducible first | exact HB.out | apply below_alloc | apply pw_below_drewN | apply below_drew1 | refine below_set ?_ GE217.out | refine below_set ?_ GE226.out | refine below_set ?_ GE240.out) | exact HB.out)) hb)
                   clear HO221
                   clear HO224
                   clear BK217
                   clear BK226
                   clear BK240
                   clear HB
                   have HO221 := n0_
                   have HO224 := n1_
                   have HO235 := n2_
                   have HO238 := n3_
                   have BK217 := n4_
                   have BK226 := n5_
                   have BK240 := n6_
                   have HB := n7_
                   clear n0_ n1_ n2_ n3_ n4_ n5_ n6_ n7_
                   (try clear hb)
                   (try clear hb2)
                   (try clear hk)
                   (try clear hi)
                   (try clear ho0)
                   (try clear ho1)
                   refine hK.out _ _ ⟨(blk_cell BK217.out 0).trans rfl, (blk_cell BK217.out 1).trans rfl, (blk_cell BK217.out 2).trans rfl⟩ (fun hHeld => ?_)
                   clear hK K
                   refine norm_ (a' := ?_) ?_ ?_
                   rotate_left
                   ·show Act.put _ (some 76) _ = _
                    simp only [Act.put, List.setIfInBounds_toArray, List.set_cons_zero, List.set_cons_succ, i64_w, i32_w]
                    rfl
                   refine pure_ (i := 18) (N := some 58) (v := ?_) (a' := ?_) #[true, true, true, true, true, true, true, true, true, true, true, true, true, true, true, true, true, true, true, false, false, true, false, false] rfl rfl (any_of HT_.out (by kernel_rfl)) (fun _ _ _ h => h) (Or.inl ⟨by rfl, ?_⟩) ?_ ?_
                   rotate_left
                   ·intro w'
                    go_simp
                    with_reducible rfl
                   rotate_left
                   ·simp only [Act.put, List.setIfInBounds_toArray, List.set_cons_zero, List.set_cons_succ, i64_w, i32_w]
                    rfl
                   refine pure_ (i := 19) (N := some 77) (v := ?_) (a' := ?_) #[true, true, true, true, true, true, true, true, true, true, true, true, true, true, true, true, true, true, true, true, false, true, false, false] rfl rfl (any_of HT_.out (by kernel_rfl)) (fun _ _ _ h => h) (Or.inl ⟨by rfl, ?_⟩) ?_ ?_
                   rotate_left
                   ·intro w'
                    go_simp
                    with_reducible rfl
                   rotate_left
                   ·simp only [Act.put, List.setIfInBounds_toArray, List.set_cons_zero, List.set_cons_succ, i64_w, i32_w]
                    rfl
                   refine pure_ (i := 20) (N := some 78) (v := ?_) (a' := ?_) #[true, true, true, true, true, true, true, true, true, true, true, true, true, true, true, true, true, true, true, true, true, true, false, false] rfl rfl (any_of HT_.out (by kernel_rfl)) (fun _ _ _ h => h) (Or.inl ⟨by rfl, ?_⟩) ?_ ?_
                   rotate_left
                   ·intro w'
                    go_simp
                    with_reducible rfl
                   rotate_left
                   ·simp only [Act.put, List.setIfInBounds_toArray, List.set_cons_zero, List.set_cons_succ, i64_w, i32_w]
                    rfl
                   exact norm_ (by simp only [putAll, Act.put, List.setIfInBounds_toArray, List.set_cons_zero, List.set_cons_succ]) (hCont (v234, v237, gb240) _ ⟨hHeld, (by (with_reducible repeat (first | apply Kd.R_alloc | apply Kd.R_drewN | apply Kd.R_drew)); exact Kd.R_mono HO221.out (fun _ hk => ⟨hk.1.1, ⟨hk.1.2, hk.2⟩⟩)), (by (with_reducible repeat (first | apply Kd.R_alloc | apply Kd.R_drewN | apply Kd.R_drew)); exact Kd.R_mono HO224.out (fun _ hk => ⟨hk.1.1, ⟨hk.1.2, hk.2⟩⟩)), (by (with_reducible repeat (first | apply Kd.R_alloc | apply Kd.R_drewN | apply Kd.R_drew)); exact Kd.R_mono HO235.out (fun _ hk => ⟨hk.1.2, ⟨hk.2, hk.1.1⟩⟩)), (by (with_reducible repeat (first | apply Kd.R_alloc | apply Kd.R_drewN | apply Kd.R_drew)); exact Kd.R_mono HO238.out (fun _ hk => ⟨hk.1.2, ⟨hk.2, hk.1.1⟩⟩)), (by (with_reducible repeat (first | refine blk_drewN ?_ _ | refine blk_drew ?_ | refine blk_alloc ?_ _)); exact BK217.out), (by (with_reducible repeat (first | refine blk_drewN ?_ _ | refine blk_drew ?_ | refine blk_alloc ?_ _)); exact BK226.out), (by (with_reducible repeat (first | refine blk_drewN ?_ _ | refine blk_drew ?_ | refine blk_alloc ?_ _)); exact BK240.out), GW240.out, GE240.out, NB217_240.out, NB240_217.out, NB226_240.out, NB240_226.out, (by repeat (first | (with_reducible first | exact HB.out | apply below_alloc | apply pw_below_drewN | apply below_drew1 | refine below_set ?_ GE217.out | refine below_set ?_ GE226.out | refine below_set ?_ GE240.out) | exact HB.out))⟩)
                 rintro ⟨v234, v237, gb240⟩ w50 ⟨hS_, h0_, h1_, h2_, h3_, h4_, h5_, h6_, h7_, h8_, h9_, h10_, h11_, h12_, h13_⟩
                 have n0_ : Aside0 (Kd.R (Kd.int .i64) 27 w50 w.heap.size (fun k_ => some k_ ≠ (.slice Ao42 t222.length co42 : Value).ownBlock ∧ some k_ ≠ (v234 : Value).ownBlock ∧ some k_ ≠ (v237 : Value).ownBlock) (.slice Ao39 t219.length co39) t219) := ⟨h0_⟩
                 have n1_ : Aside0 (Kd.R (Kd.int .i64) 27 w50 w.heap.size (fun k_ => some k_ ≠ (.slice Ao39 t219.length co39 : Value).ownBlock ∧ some k_ ≠ (v234 : Value).ownBlock ∧ some k_ ≠ (v237 : Value).ownBlock) (.slice Ao42 t222.length co42) t222) := ⟨h1_⟩
                 have n2_ : Aside0 (Kd.R (Kd.int .i64) 27 w50 w.heap.size (fun k_ => some k_ ≠ (.slice Ao39 t219.length co39 : Value).ownBlock ∧ some k_ ≠ (.slice Ao42 t222.length co42 : Value).ownBlock ∧ some k_ ≠ (v237 : Value).ownBlock) v234 t233) := ⟨h2_⟩
                 have n3_ : Aside0 (Kd.R (Kd.int .i64) 27 w50 w.heap.size (fun k_ => some k_ ≠ (.slice Ao39 t219.length co39 : Value).ownBlock ∧ some k_ ≠ (.slice Ao42 t222.length co42 : Value).ownBlock ∧ some k_ ≠ (v234 : Value).ownBlock) v237 t236) := ⟨h3_⟩
                 have n4_ : Aside0 (w50.heap[gb217]? = some (.cells #[.int .i64 a4_0, .int .i64 a4_1, .int .i64 a4_2] 37 (0, 0))) := ⟨h4_⟩
                 have n5_ : Aside0 (w50.heap[gb226]? = some (.cells #[.slice Ao39 t219.length co39, .slice Ao42 t222.length co42] 25 (0, 0))) := ⟨h5_⟩
                 have n6_ : Aside0 (w50.heap[gb240]? = some (.cells #[.slice none 0 0, .slice none 0 0] 25 (0, 0))) := ⟨h6_⟩
                 have n7_ : Aside0 (w.heap.size ≤ gb240) := ⟨h7_⟩
                 have n8_ : Aside0 (w.heap.size ≤ gb240) := ⟨h8_⟩
                 have n9_ : Aside0 (gb217 ≠ gb240) := ⟨h9_⟩
                 have n10_ : Aside0 (gb240 ≠ gb217) := ⟨h10_⟩
                 have n11_ : Aside0 (gb226 ≠ gb240) := ⟨h11_⟩
                 have n12_ : Aside0 (gb240 ≠ gb226) := ⟨h12_⟩
                 have n13_ : Aside0 (Below w.heap.size w w50) := ⟨h13_⟩
                 clear HO221
                 clear HO224
                 clear BK217
                 clear BK226
                 clear HB
                 clear h0_ h1_ h2_ h3_ h4_ h5_ h6_ h7_ h8_ h9_ h10_ h11_ h12_ h13_
                 have HO221 := n0_
                 have HO224 := n1_
                 have HO235 := n2_
                 have HO238 := n3_
                 have BK217 := n4_
                 have BK226 := n5_
                 have BK240 := n6_
                 have GW240 := n7_
                 have GE240 := n8_
                 have NB217_240 := n9_
                 have NB240_217 := n10_
                 have NB226_240 := n11_
                 have NB240_226 := n12_
                 have HB := n13_
                 clear n0_ n1_ n2_ n3_ n4_ n5_ n6_ n7_ n8_ n9_ n10_ n11_ n12_ n13_
                 have hHeld : w50.cell? ⟨gb217, 0, none⟩ = some (.int .i64 a4_0) ∧ w50.cell? ⟨gb217, 1, none⟩ = some (.int .i64 a4_1) ∧ w50.cell? ⟨gb217, 2, none⟩ = some (.int .i64 a4_2) := hS_
                 obtain ⟨Ao51, co51, eo51⟩ := Kd.R_slice HO235.out
                 (first | subst eo51 | (injection eo51 with f1_ f2_ f3_; have f4_ := f1_.symm; have f5_ := f3_.symm; clear f1_ f2_ f3_; subst f4_; subst f5_))
                 obtain ⟨Ao53, co53, eo53⟩ := Kd.R_slice HO238.out
                 (first | subst eo53 | (injection eo53 with f1_ f2_ f3_; have f4_ := f1_.symm; have f5_ := f3_.symm; clear f1_ f2_ f3_; subst f4_; subst f5_))
                 refine norm_ (a' := ?_) ?_ ?_
                 rotate_left
                 ·simp only [putAll, Act.put, List.setIfInBounds_toArray, List.set_cons_zero, List.set_cons_succ]
                  rfl
                 refine one_ (i := 22) (N := none) #[true, true, true, true, true, true, true, true, true, true, true, true, true, true, true, true, true, true, true, true, true, true, true, false] rfl rfl (one_of HT_.out (by kernel_rfl)) (by decide) (fun K hK => ?_)
                 have hs52 : w50.cell? ⟨gb240, 0, none⟩ = some (.slice none 0 0) := (blk_cell BK240.out 0).trans rfl
                 have hfs52 := blk_frozen BK240.out 0
                 have hns52_0 := NB217_240.out
                 have hns52_1 := NB226_240.out
                 have hms52_0 := NB240_217.out
                 have hms52_1 := NB240_226.out
                 have hs54 : w50.cell? ⟨gb240, 1, none⟩ = some (.slice none 0 0) := (blk_cell BK240.out 1).trans rfl
                 have hfs54 := blk_frozen BK240.out 1
                 have hns54_0 := NB217_240.out
                 have hns54_1 := NB226_240.out
                 have hms54_0 := NB240_217.out
                 have hms54_1 := NB240_226.out
                 refine skip_ (w1 := ?_) (by rfl) rfl ?_ ?_
                 rotate_left
                 ·go_simp
                  rfl
                 refine hK.out _ _ ⟨((cell_far (p := ⟨gb240, _, none⟩) NB217_240.out _).trans (((cell_far (p := ⟨gb240, _, none⟩) NB217_240.out _).trans (hHeld.1)))), ((cell_far (p := ⟨gb240, _, none⟩) NB217_240.out _).trans (((cell_far (p := ⟨gb240, _, none⟩) NB217_240.out _).trans (hHeld.2.1)))), ((cell_far (p := ⟨gb240, _, none⟩) NB217_240.out _).trans (((cell_far (p := ⟨gb240, _, none⟩) NB217_240.out _).trans (hHeld.2.2))))⟩ (fun hHeld => ?_)
                 clear hK K
                 refine pure_ (i := 23) (N := some 14) (v := ?_) (a' := ?_) #[true, true, true, true, true, true, true, true, true, true, true, true, true, true, true, true, true, true, true, true, true, true, true, true] rfl rfl (any_of HT_.out (by kernel_rfl)) (fun _ _ _ h => h) (Or.inl ⟨by rfl, ?_⟩) ?_ ?_
                 rotate_left
                 ·intro w'
                  go_simp
                  with_reducible rfl
                 rotate_left
                 ·simp only [Act.put, List.setIfInBounds_toArray, List.set_cons_zero, List.set_cons_succ, i64_w, i32_w]
                  rfl
                 refine done_ (done_of HT_.out (by kernel_rfl)) ?_
                 try go_wp2
                 have n0_ : Aside0 (Kd.R (Kd.int .i64) 27 ((w50.setCell ⟨gb240, 0, none⟩ (.slice Ao51 t233.length co51)).setCell ⟨gb240, 1, none⟩ (.slice Ao53 t236.length co53)) w.heap.size (fun k_ => some k_ ≠ (.slice Ao42 t222.length co42 : Value).ownBlock ∧ some k_ ≠ (.slice Ao51 t233.length co51 : Value).ownBlock ∧ some k_ ≠ (.slice Ao53 t236.length co53 : Value).ownBlock) (.slice Ao39 t219.length co39) t219) := ⟨by (with_reducible repeat (first | apply Kd.R_alloc | apply Kd.R_drewN | apply Kd.R_drew)); exact Kd.R_mono (Kd.R_far (p := ⟨gb240, 1, none⟩) (Kd.R_far (p := ⟨gb240, 0, none⟩) (Kd.R_types HO221.out BK240.out (by decide)) (fun _ hk => hk.2) (.slice Ao51 t233.length co51)) (fun _ hk => hk.2) (.slice Ao53 t236.length co53)) (fun _ hk => ⟨hk.1.1, ⟨hk.1.2.1, hk.1.2.2⟩⟩)⟩
                 have n1_ : Aside0 (Kd.R (Kd.int .i64) 27 ((w50.setCell ⟨gb240, 0, none⟩ (.slice Ao51 t233.length co51)).setCell ⟨gb240, 1, none⟩ (.slice Ao53 t236.length co53)) w.heap.size (fun k_ => some k_ ≠ (.slice Ao39 t219.length co39 : Value).ownBlock ∧ some k_ ≠ (.slice Ao51 t233.length co51 : Value).ownBlock ∧ some k_ ≠ (.slice Ao53 t236.length co53 : Value).ownBlock) (.slice Ao42 t222.length co42) t222) := ⟨by (with_reducible repeat (first | apply Kd.R_alloc | apply Kd.R_drewN | apply Kd.R_drew)); exact Kd.R_mono (Kd.R_far (p := ⟨gb240, 1, none⟩) (Kd.R_far (p := ⟨gb240, 0, none⟩) (Kd.R_types HO224.out BK240.out (by decide)) (fun _ hk => hk.2) (.slice Ao51 t233.length co51)) (fun _ hk => hk.2) (.slice Ao53 t236.length co53)) (fun _ hk => ⟨hk.1.1, ⟨hk.1.2.1, hk.1.2.2⟩⟩)⟩
                 have n2_ : Aside0 (Kd.R (Kd.int .i64) 27 ((w50.setCell ⟨gb240, 0, none⟩ (.slice Ao51 t233.length co51)).setCell ⟨gb240, 1, none⟩ (.slice Ao53 t236.length co53)) w.heap.size (fun k_ => some k_ ≠ (.slice Ao39 t219.length co39 : Value).ownBlock ∧ some k_ ≠ (.slice Ao42 t222.length co42 : Value).ownBlock ∧ some k_ ≠ (.slice Ao53 t236.length co53 : Value).ownBlock) (.slice Ao51 t233.length co51) t233) := ⟨by (with_reducible repeat (first | apply Kd.R_alloc | apply Kd.R_drewN | apply Kd.R_drew)); exact Kd.R_mono (Kd.R_far (p := ⟨gb240, 1, none⟩) (Kd.R_far (p := ⟨gb240, 0, none⟩) (Kd.R_types HO235.out BK240.out (by decide)) (fun _ hk => hk.2) (.slice Ao51 t233.length co51)) (fun _ hk => hk.2) (.slice Ao53 t236.length co53)) (fun _ hk => ⟨hk.1.1, ⟨hk.1.2.1, hk.1.2.2⟩⟩)⟩
                 have n3_ : Aside0 (Kd.R (Kd.int .i64) 27 ((w50.setCell ⟨gb240, 0, none⟩ (.slice Ao51 t233.length co51)).setCell ⟨gb240, 1, none⟩ (.slice Ao53 t236.length co53)) w.heap.size (fun k_ => some k_ ≠ (.slice Ao39 t219.length co39 : Value).ownBlock ∧ some k_ ≠ (.slice Ao42 t222.length co42 : Value).ownBlock ∧ some k_ ≠ (.slice Ao51 t233.length co51 : Value).ownBlock) (.slice Ao53 t236.length co53) t236) := ⟨by (with_reducible repeat (first | apply Kd.R_alloc | apply Kd.R_drewN | apply Kd.R_drew)); exact Kd.R_mono (Kd.R_far (p := ⟨gb240, 1, none⟩) (Kd.R_far (p := ⟨gb240, 0, none⟩) (Kd.R_types HO238.out BK240.out (by decide)) (fun _ hk => hk.2) (.slice Ao51 t233.length co51)) (fun _ hk => hk.2) (.slice Ao53 t236.length co53)) (fun _ hk => ⟨hk.1.1, ⟨hk.1.2.1, hk.1.2.2⟩⟩)⟩
                 have n4_ : Aside0 (((w50.setCell ⟨gb240, 0, none⟩ (.slice Ao51 t233.length co51)).setCell ⟨gb240, 1, none⟩ (.slice Ao53 t236.length co53)).heap[gb217]? = some (.cells #[.int .i64 a4_0, .int .i64 a4_1, .int .i64 a4_2] 37 (0, 0))) := ⟨by (with_reducible repeat (first | refine blk_drewN ?_ _ | refine blk_drew ?_ | refine blk_alloc ?_ _)); refine blk_far ?_ NB217_240.out _; (with_reducible repeat (first | refine blk_drewN ?_ _ | refine blk_drew ?_ | refine blk_alloc ?_ _)); refine blk_far ?_ NB217_240.out _; (with_reducible repeat (first | refine blk_drewN ?_ _ | refine blk_drew ?_ | refine blk_alloc ?_ _)); exact BK217.out⟩
                 have n5_ : Aside0 (((w50.setCell ⟨gb240, 0, none⟩ (.slice Ao51 t233.length co51)).setCell ⟨gb240, 1, none⟩ (.slice Ao53 t236.length co53)).heap[gb226]? = some (.cells #[.slice Ao39 t219.length co39, .slice Ao42 t222.length co42] 25 (0, 0))) := ⟨by (with_reducible repeat (first | refine blk_drewN ?_ _ | refine blk_drew ?_ | refine blk_alloc ?_ _)); refine blk_far ?_ NB226_240.out _; (with_reducible repeat (first | refine blk_drewN ?_ _ | refine blk_drew ?_ | refine blk_alloc ?_ _)); refine blk_far ?_ NB226_240.out _; (with_reducible repeat (first | refine blk_drewN ?_ _ | refine blk_drew ?_ | refine blk_alloc ?_ _)); exact BK226.out⟩
                 have n6_ : Aside0 (((w50.setCell ⟨gb240, 0, none⟩ (.slice Ao51 t233.length co51)).setCell ⟨gb240, 1, none⟩ (.slice Ao53 t236.length co53)).heap[gb240]? = some (.cells #[.slice Ao51 t233.length co51, .slice Ao53 t236.length co53] 25 (0, 0))) := ⟨by (with_reducible repeat (first | refine blk_drewN ?_ _ | refine blk_drew ?_ | refine blk_alloc ?_ _)); refine blk_put (cs := #[.slice Ao51 t233.length co51, .slice none 0 0]) ?_ 1 _ rfl; (with_reducible repeat (first | refine blk_drewN ?_ _ | refine blk_drew ?_ | refine blk_alloc ?_ _)); refine blk_put (cs := #[.slice none 0 0, .slice none 0 0]) ?_ 0 _ rfl; (with_reducible repeat (first | refine blk_drewN ?_ _ | refine blk_drew ?_ | refine blk_alloc ?_ _)); exact BK240.out⟩
                 have n7_ : Aside0 (Below w.heap.size w ((w50.setCell ⟨gb240, 0, none⟩ (.slice Ao51 t233.length co51)).setCell ⟨gb240, 1, none⟩ (.slice Ao53 t236.length co53))) := ⟨by repeat (first | (with_reducible first | exact HB.out | apply below_alloc | apply pw_below_drewN | apply below_drew1 | refine below_set ?_ GE217.out | refine below_set ?_ GE226.out | refine below_set ?_ GE240.out) | exact HB.out)⟩
                 (try clear HO221)
                 (try clear HO224)
                 (try clear HO235)
                 (try clear HO238)
                 (try clear BK217)
                 (try clear BK226)
                 (try clear BK240)
                 (try clear HB)
                 generalize ((w50.setCell ⟨gb240, 0, none⟩ (.slice Ao51 t233.length co51)).setCell ⟨gb240, 1, none⟩ (.slice Ao53 t236.length co53)) = w55 at n0_ n1_ n2_ n3_ n4_ n5_ n6_ n7_ ⊢
                 have HO221 := n0_
                 have HO224 := n1_
                 have HO235 := n2_
                 have HO238 := n3_
                 have BK217 := n4_
                 have BK226 := n5_
                 have BK240 := n6_
                 have HB := n7_
                 clear n0_ n1_ n2_ n3_ n4_ n5_ n6_ n7_
                 have n0_ := Aside0.mk (Kd.R_drew HO221.out)
                 have n1_ := Aside0.mk (Kd.R_drew HO224.out)
                 have n2_ := Aside0.mk (Kd.R_drew HO235.out)
                 have n3_ := Aside0.mk (Kd.R_drew HO238.out)
                 have n4_ := Aside0.mk (blk_drew BK217.out)
                 have n5_ := Aside0.mk (blk_drew BK226.out)
                 have n6_ := Aside0.mk (blk_drew BK240.out)
                 have n7_ := Aside0.mk (below_drew1 HB.out)
                 clear HO221
                 clear HO224
                 clear HO235
                 clear HO238
                 clear BK217
                 clear BK226
                 clear BK240
                 clear HB
                 have HO221 := n0_
                 have HO224 := n1_
                 have HO235 := n2_
                 have HO238 := n3_
                 have BK217 := n4_
                 have BK226 := n5_
                 have BK240 := n6_
                 have HB := n7_
                 clear n0_ n1_ n2_ n3_ n4_ n5_ n6_ n7_
                 have p241 : 0 ≤ (a3 : Int) := of_decide_eq_true (by first | (with_reducible assumption) | assumption)
                 have q241 : a3 < (t219.length : Int) := of_decide_eq_true (by first | (with_reducible assumption) | assumption)
                 obtain ⟨ad241, e241, hx241_0⟩ := Kd.at_int (Kd.R_reads' HO221.out).2.2 a3 p241 q241
                 cases e241
                 replace p241 := eq_true p241
                 replace q241 := eq_true q241
                 have p242 : 0 ≤ (0 : Int) := (by omega)
                 have q242 : 0 < (t233.length : Int) := of_decide_eq_true (by first | (with_reducible assumption) | assumption)
                 obtain ⟨ad242, e242, hx242_0⟩ := Kd.at_int (Kd.R_reads' HO235.out).2.2 0 p242 q242
                 cases e242
                 have qi242 : (0 < t233.length) = True := eq_true (by omega)
                 (try rw [show ((0 : Int)).toNat = 0 from rfl] at hx242_0)
                 (try rw [Addr.add_zero'] at hx242_0)
                 replace p242 := eq_true p242
                 replace q242 := eq_true q242
                 have p243 : 0 ≤ (a3 : Int) := of_decide_eq_true (by first | (with_reducible assumption) | assumption)
                 have q243 : a3 < (t222.length : Int) := of_decide_eq_true (by first | (with_reducible assumption) | assumption)
                 obtain ⟨ad243, e243, hx243_0⟩ := Kd.at_int (Kd.R_reads' HO224.out).2.2 a3 p243 q243
                 cases e243
                 replace p243 := eq_true p243
                 replace q243 := eq_true q243
                 have p244 : 0 ≤ (0 : Int) := (by omega)
                 have q244 : 0 < (t236.length : Int) := of_decide_eq_true (by first | (with_reducible assumption) | assumption)
                 obtain ⟨ad244, e244, hx244_0⟩ := Kd.at_int (Kd.R_reads' HO238.out).2.2 0 p244 q244
                 cases e244
                 have qi244 : (0 < t236.length) = True := eq_true (by omega)
                 (try rw [show ((0 : Int)).toNat = 0 from rfl] at hx244_0)
                 (try rw [Addr.add_zero'] at hx244_0)
                 replace p244 := eq_true p244
                 replace q244 := eq_true q244
                 refine start_ (n := 31) (S := fun w' => w'.cell? ⟨gb226, 0, none⟩ = some (.slice (some ad241) t219.length co39) ∧ w'.cell? ⟨gb226, 1, none⟩ = some (.slice (some ad243) t222.length co42) ∧ w'.cell? ⟨gb240, 0, none⟩ = some (.slice (some ad242) t233.length co51) ∧ w'.cell? ⟨gb240, 1, none⟩ = some (.slice (some ad244) t236.length co53) ∧ w'.cell? (ad241.add (a3).toNat) = some (.int .i64 (rd t219 a3)) ∧ w'.cell? ad242 = some (.int .i64 (rd t233 0)) ∧ w'.cell? (ad243.add (a3).toNat) = some (.int .i64 (rd t222 a3)) ∧ w'.cell? ad244 = some (.int .i64 (rd t236 0))) (ds := []) #[false, false, false, false, false, false, false, false, false, false, false, false, false, false, false, false, false, false, false, false, false, false, false, false, false, false, false, false, false, false, false] (by kernel_rfl) rfl rfl ⟨(blk_cell BK226.out 0).trans rfl, (blk_cell BK226.out 1).trans rfl, (blk_cell BK240.out 0).trans rfl, (blk_cell BK240.out 1).trans rfl, hx241_0, hx242_0, hx243_0, hx244_0⟩ (fun hHeld => ?_); refine with_tabW carousellaw15_OptAlone.tab7 carousellaw15_OptAlone.bits7 (fun HT_ HW_ => ?_)
                 generalize w55.drew = w56 at HO221 HO224 HO235 HO238 BK217 BK226 BK240 HB hx241_0 hx242_0 hx243_0 hx244_0 hHeld ⊢
                 refine pure_ (i := 0) (N := some 79) (v := ?_) (a' := ?_) #[true, false, false, false, false, false, false, false, false, false, false, false, false, false, false, false, false, false, false, false, false, false, false, false, false, false, false, false, false, false, false] rfl rfl (any_of HT_.out (by kernel_rfl)) (fun _ _ _ h => h) (Or.inl ⟨by rfl, ?_⟩) ?_ ?_
                 rotate_left
                 ·intro w'
                  go_simp
                  with_reducible rfl
                 rotate_left
                 ·simp only [Act.put, List.setIfInBounds_toArray, List.set_cons_zero, List.set_cons_succ, i64_w, i32_w]
                  rfl
                 refine pure_ (i := 1) (N := some 80) (v := ?_) (a' := ?_) #[true, true, false, false, false, false, false, false, false, false, false, false, false, false, false, false, false, false, false, false, false, false, false, false, false, false, false, false, false, false, false] rfl rfl (any_of HT_.out (by kernel_rfl)) (fun _ _ _ h => h) (Or.inl ⟨by rfl, ?_⟩) ?_ ?_
                 rotate_left
                 ·intro w'
                  go_simp
                  with_reducible rfl
                 rotate_left
                 ·simp only [Act.put, List.setIfInBounds_toArray, List.set_cons_zero, List.set_cons_succ, i64_w, i32_w]
                  rfl
                 refine pure_ (i := 2) (N := some 81) (v := ?_) (a' := ?_) #[true, true, true, false, false, false, false, false, false, false, false, false, false, false, false, false, false, false, false, false, false, false, false, false, false, false, false, false, false, false, false] rfl rfl (any_of HT_.out (by kernel_rfl)) (fun _ _ _ h => h) (Or.inl ⟨by rfl, ?_⟩) ?_ ?_
                 rotate_left
                 ·intro w'
                  go_simp
                  with_reducible rfl
                 rotate_left
                 ·simp only [Act.put, List.setIfInBounds_toArray, List.set_cons_zero, List.set_cons_succ, i64_w, i32_w]
                  rfl
                 refine pure_ (i := 3) (N := some 82) (v := ?_) (a' := ?_) #[true, true, true, true, false, false, false, false, false, false, false, false, false, false, false, false, false, false, false, false, false, false, false, false, false, false, false, false, false, false, false] rfl rfl (any_of HT_.out (by kernel_rfl)) (fun _ _ _ h => h) (Or.inl ⟨by rfl, ?_⟩) ?_ ?_
                 rotate_left
                 ·intro w'
                  go_simp
                  with_reducible rfl
                 rotate_left
                 ·simp only [Act.put, List.setIfInBounds_toArray, List.set_cons_zero, List.set_cons_succ, i64_w, i32_w]
                  rfl
                 refine pure_ (i := 4) (N := some 83) (v := ?_) (a' := ?_) #[true, true, true, true, true, false, false, false, false, false, false, false, false, false, false, false, false, false, false, false, false, false, false, false, false, false, false, false, false, false, false] rfl rfl (any_of HT_.out (by kernel_rfl)) (fun _ _ _ h => h) (Or.inl ⟨by rfl, ?_⟩) ?_ ?_
                 rotate_left
                 ·intro w'
                  go_simp
                  with_reducible rfl
                 rotate_left
                 ·simp only [Act.put, List.setIfInBounds_toArray, List.set_cons_zero, List.set_cons_succ, i64_w, i32_w]
                  rfl
                 refine pure_ (i := 5) (N := some 84) (v := ?_) (a' := ?_) #[true, true, true, true, true, true, false, false, false, false, false, false, false, false, false, false, false, false, false, false, false, false, false, false, false, false, false, false, false, false, false] rfl rfl (any_of HT_.out (by kernel_rfl)) (fun _ _ _ h => h) (Or.inl ⟨by rfl, ?_⟩) ?_ ?_
                 rotate_left
                 ·intro w'
                  go_simp
                  with_reducible rfl
                 rotate_left
                 ·simp only [Act.put, List.setIfInBounds_toArray, List.set_cons_zero, List.set_cons_succ, i64_w, i32_w]
                  rfl
                 refine pure_ (i := 6) (N := some 85) (v := ?_) (a' := ?_) #[true, true, true, true, true, true, true, false, false, false, false, false, false, false, false, false, false, false, false, false, false, false, false, false, false, false, false, false, false, false, false] rfl rfl (any_of HT_.out (by kernel_rfl)) (fun _ _ _ h => h) (Or.inl ⟨by rfl, ?_⟩) ?_ ?_
                 rotate_left
                 ·intro w'
                  go_simp
                  with_reducible rfl
                 rotate_left
                 ·simp only [Act.put, List.setIfInBounds_toArray, List.set_cons_zero, List.set_cons_succ, i64_w, i32_w]
                  rfl
                 refine pure_ (i := 7) (N := some 86) (v := ?_) (a' := ?_) #[true, true, true, true, true, true, true, true, false, false, false, false, false, false, false, false, false, false, false, false, false, false, false, false, false, false, false, false, false, false, false] rfl rfl (any_of HT_.out (by kernel_rfl)) (fun _ _ _ h => h) (Or.inl ⟨by rfl, ?_⟩) ?_ ?_
                 rotate_left
                 ·intro w'
                  go_simp
                  with_reducible rfl
                 rotate_left
                 ·simp only [Act.put, List.setIfInBounds_toArray, List.set_cons_zero, List.set_cons_succ, i64_w, i32_w]
                  rfl
                 refine pure_ (i := 9) (N := some 88) (v := ?_) (a' := ?_) #[true, true, true, true, true, true, true, true, false, true, false, false, false, false, false, false, false, false, false, false, false, false, false, false, false, false, false, false, false, false, false] rfl rfl (any_of HT_.out (by kernel_rfl)) (fun _ _ _ h => h) (Or.inl ⟨by rfl, ?_⟩) ?_ ?_
                 rotate_left
                 ·intro w'
                  go_simp
                  with_reducible rfl
                 rotate_left
                 ·simp only [Act.put, List.setIfInBounds_toArray, List.set_cons_zero, List.set_cons_succ, i64_w, i32_w]
                  rfl
                 refine pure_ (i := 12) (N := some 91) (v := ?_) (a' := ?_) #[true, true, true, true, true, true, true, true, false, true, false, false, true, false, false, false, false, false, false, false, false, false, false, false, false, false, false, false, false, false, false] rfl rfl (any_of HT_.out (by kernel_rfl)) (fun _ _ _ h => h) (Or.inl ⟨by rfl, ?_⟩) ?_ ?_
                 rotate_left
                 ·intro w'
                  go_simp
                  with_reducible rfl
                 rotate_left
                 ·simp only [Act.put, List.setIfInBounds_toArray, List.set_cons_zero, List.set_cons_succ, i64_w, i32_w]
                  rfl
                 refine take_ (i := 8) (N := some 87) (v := ?_) (a' := ?_) #[true, true, true, true, true, true, true, true, true, true, false, false, true, false, false, false, false, false, false, false, false, false, false, false, false, false, false, false, false, false, false] rfl rfl (take_ofW HT_.out HW_.out (by kernel_rfl)) (fun _ _ _ h => h) (Or.inl ⟨by rfl, ?_⟩) hHeld ?_ ?_
                 rotate_left
                 ·rintro w' ⟨s0, s1, s2, s3, s4, s5, s6, s7⟩
                  go_simp
                  with_reducible rfl
                 rotate_left
                 ·simp only [Act.put, List.setIfInBounds_toArray, List.set_cons_zero, List.set_cons_succ, i64_w, i32_w]
                  rfl
                 refine pure_ (i := 10) (N := some 89) (v := ?_) (a' := ?_) #[true, true, true, true, true, true, true, true, true, true, true, false, true, false, false, false, false, false, false, false, false, false, false, false, false, false, false, false, false, false, false] rfl rfl (any_of HT_.out (by kernel_rfl)) (fun _ _ _ h => h) (Or.inl ⟨by rfl, ?_⟩) ?_ ?_
                 rotate_left
                 ·intro w'
                  go_simp
                  with_reducible rfl
                 rotate_left
                 ·simp only [Act.put, List.setIfInBounds_toArray, List.set_cons_zero, List.set_cons_succ, i64_w, i32_w]
                  rfl
                 refine take_ (i := 11) (N := some 90) (v := ?_) (a' := ?_) #[true, true, true, true, true, true, true, true, true, true, true, true, true, false, false, false, false, false, false, false, false, false, false, false, false, false, false, false, false, false, false] rfl rfl (take_ofW HT_.out HW_.out (by kernel_rfl)) (fun _ _ _ h => h) (Or.inl ⟨by rfl, ?_⟩) hHeld ?_ ?_
                 rotate_left
                 ·rintro w' ⟨s0, s1, s2, s3, s4, s5, s6, s7⟩
                  go_simp
                  with_reducible rfl
                 rotate_left
                 ·simp only [Act.put, List.setIfInBounds_toArray, List.set_cons_zero, List.set_cons_succ, i64_w, i32_w]
                  rfl
                 refine take_ (i := 13) (N := some 92) (v := ?_) (a' := ?_) #[true, true, true, true, true, true, true, true, true, true, true, true, true, true, false, false, false, false, false, false, false, false, false, false, false, false, false, false, false, false, false] rfl rfl (take_ofW HT_.out HW_.out (by kernel_rfl)) (fun _ _ _ h => h) (Or.inl ⟨by rfl, ?_⟩) hHeld ?_ ?_
                 rotate_left
                 ·rintro w' ⟨s0, s1, s2, s3, s4, s5, s6, s7⟩
                  go_simp
                  with_reducible rfl
                 rotate_left
                 ·simp only [Act.put, List.setIfInBounds_toArray, List.set_cons_zero, List.set_cons_succ, i64_w, i32_w]
                  rfl
                 refine pure_ (i := 14) (N := some 93) (v := ?_) (a' := ?_) #[true, true, true, true, true, true, true, true, true, true, true, true, true, true, true, false, false, false, false, false, false, false, false, false, false, false, false, false, false, false, false] rfl rfl (any_of HT_.out (by kernel_rfl)) (fun _ _ _ h => h) (Or.inl ⟨by rfl, ?_⟩) ?_ ?_
                 rotate_left
                 ·intro w'
                  go_simp
                  with_reducible rfl
                 rotate_left
                 ·simp only [Act.put, List.setIfInBounds_toArray, List.set_cons_zero, List.set_cons_succ, i64_w, i32_w]
                  rfl
                 refine take_ (i := 15) (N := some 94) (v := ?_) (a' := ?_) #[true, true, true, true, true, true, true, true, true, true, true, true, true, true, true, true, false, false, false, false, false, false, false, false, false, false, false, false, false, false, false] rfl rfl (take_ofW HT_.out HW_.out (by kernel_rfl)) (fun _ _ _ h => h) (Or.inl ⟨by rfl, ?_⟩) hHeld ?_ ?_
                 rotate_left
                 ·rintro w' ⟨s0, s1, s2, s3, s4, s5, s6, s7⟩
                  go_simp
                  with_reducible rfl
                 rotate_left
                 ·simp only [Act.put, List.setIfInBounds_toArray, List.set_cons_zero, List.set_cons_succ, i64_w, i32_w]
                  rfl
                 refine pure_ (i := 16) (N := some 95) (v := ?_) (a' := ?_) #[true, true, true, true, true, true, true, true, true, true, true, true, true, true, true, true, true, false, false, false, false, false, false, false, false, false, false, false, false, false, false] rfl rfl (any_of HT_.out (by kernel_rfl)) (fun _ _ _ h => h) (Or.inl ⟨by rfl, ?_⟩) ?_ ?_
                 rotate_left
                 ·intro w'
                  go_simp
                  with_reducible rfl
                 rotate_left
                 ·simp only [Act.put, List.setIfInBounds_toArray, List.set_cons_zero, List.set_cons_succ, i64_w, i32_w]
                  rfl
                 refine pure_ (i := 17) (N := some 96) (v := ?_) (a' := ?_) #[true, true, true, true, true, true, true, true, true, true, true, true, true, true, true, true, true, true, false, false, false, false, false, false, false, false, false, false, false, false, false] rfl rfl (any_of HT_.out (by kernel_rfl)) (fun _ _ _ h => h) (Or.inl ⟨by rfl, ?_⟩) ?_ ?_
                 rotate_left
                 ·intro w'
                  go_simp
                  with_reducible rfl
                 rotate_left
                 ·simp only [Act.put, List.setIfInBounds_toArray, List.set_cons_zero, List.set_cons_succ, i64_w, i32_w]
                  rfl
                 refine pure_ (i := 18) (N := some 97) (v := ?_) (a' := ?_) #[true, true, true, true, true, true, true, true, true, true, true, true, true, true, true, true, true, true, true, false, false, false, false, false, false, false, false, false, false, false, false] rfl rfl (any_of HT_.out (by kernel_rfl)) (fun _ _ _ h => h) (Or.inl ⟨by rfl, ?_⟩) ?_ ?_
                 rotate_left
                 ·intro w'
                  go_simp
                  with_reducible rfl
                 rotate_left
                 ·simp only [Act.put, List.setIfInBounds_toArray, List.set_cons_zero, List.set_cons_succ, i64_w, i32_w]
                  rfl
                 refine pure_ (i := 19) (N := some 98) (v := ?_) (a' := ?_) #[true, true, true, true, true, true, true, true, true, true, true, true, true, true, true, true, true, true, true, true, false, false, false, false, false, false, false, false, false, false, false] rfl rfl (any_of HT_.out (by kernel_rfl)) (fun _ _ _ h => h) (Or.inl ⟨by rfl, ?_⟩) ?_ ?_
                 rotate_left
                 ·intro w'
                  go_simp
                  with_reducible rfl
                 rotate_left
                 ·simp only [Act.put, List.setIfInBounds_toArray, List.set_cons_zero, List.set_cons_succ, i64_w, i32_w]
                  rfl
                 refine pure_ (i := 21) (N := some 100) (v := ?_) (a' := ?_) #[true, true, true, true, true, true, true, true, true, true, true, true, true, true, true, true, true, true, true, true, false, true, false, false, false, false, false, false, false, false, false] rfl rfl (any_of HT_.out (by kernel_rfl)) (fun _ _ _ h => h) (Or.inl ⟨by rfl, ?_⟩) ?_ ?_
                 rotate_left
                 ·intro w'
                  go_simp
                  with_reducible rfl
                 rotate_left
                 ·simp only [Act.put, List.setIfInBounds_toArray, List.set_cons_zero, List.set_cons_succ, i64_w, i32_w]
                  rfl
                 refine pure_ (i := 24) (N := some 103) (v := ?_) (a' := ?_) #[true, true, true, true, true, true, true, true, true, true, true, true, true, true, true, true, true, true, true, true, false, true, false, false, true, false, false, false, false, false, false] rfl rfl (any_of HT_.out (by kernel_rfl)) (fun _ _ _ h => h) (Or.inl ⟨by rfl, ?_⟩) ?_ ?_
                 rotate_left
                 ·intro w'
                  go_simp
                  with_reducible rfl
                 rotate_left
                 ·simp only [Act.put, List.setIfInBounds_toArray, List.set_cons_zero, List.set_cons_succ, i64_w, i32_w]
                  rfl
                 refine take_ (i := 20) (N := some 99) (v := ?_) (a' := ?_) #[true, true, true, true, true, true, true, true, true, true, true, true, true, true, true, true, true, true, true, true, true, true, false, false, true, false, false, false, false, false, false] rfl rfl (take_ofW HT_.out HW_.out (by kernel_rfl)) (fun _ _ _ h => h) (Or.inl ⟨by rfl, ?_⟩) hHeld ?_ ?_
                 rotate_left
                 ·rintro w' ⟨s0, s1, s2, s3, s4, s5, s6, s7⟩
                  go_simp
                  with_reducible rfl
                 rotate_left
                 ·simp only [Act.put, List.setIfInBounds_toArray, List.set_cons_zero, List.set_cons_succ, i64_w, i32_w]
                  rfl
                 refine pure_ (i := 22) (N := some 101) (v := ?_) (a' := ?_) #[true, true, true, true, true, true, true, true, true, true, true, true, true, true, true, true, true, true, true, true, true, true, true, false, true, false, false, false, false, false, false] rfl rfl (any_of HT_.out (by kernel_rfl)) (fun _ _ _ h => h) (Or.inl ⟨by rfl, ?_⟩) ?_ ?_
                 rotate_left
                 ·intro w'
                  go_simp
                  with_reducible rfl
                 rotate_left
                 ·simp only [Act.put, List.setIfInBounds_toArray, List.set_cons_zero, List.set_cons_succ, i64_w, i32_w]
                  rfl
                 refine take_ (i := 23) (N := some 102) (v := ?_) (a' := ?_) #[true, true, true, true, true, true, true, true, true, true, true, true, true, true, true, true, true, true, true, true, true, true, true, true, true, false, false, false, false, false, false] rfl rfl (take_ofW HT_.out HW_.out (by kernel_rfl)) (fun _ _ _ h => h) (Or.inl ⟨by rfl, ?_⟩) hHeld ?_ ?_
                 rotate_left
                 ·rintro w' ⟨s0, s1, s2, s3, s4, s5, s6, s7⟩
                  go_simp
                  with_reducible rfl
                 rotate_left
                 ·simp only [Act.put, List.setIfInBounds_toArray, List.set_cons_zero, List.set_cons_succ, i64_w, i32_w]
                  rfl
                 refine take_ (i := 25) (N := some 104) (v := ?_) (a' := ?_) #[true, true, true, true, true, true, true, true, true, true, true, true, true, true, true, true, true, true, true, true, true, true, true, true, true, true, false, false, false, false, false] rfl rfl (take_ofW HT_.out HW_.out (by kernel_rfl)) (fun _ _ _ h => h) (Or.inl ⟨by rfl, ?_⟩) hHeld ?_ ?_
                 rotate_left
                 ·rintro w' ⟨s0, s1, s2, s3, s4, s5, s6, s7⟩
                  go_simp
                  with_reducible rfl
                 rotate_left
                 ·simp only [Act.put, List.setIfInBounds_toArray, List.set_cons_zero, List.set_cons_succ, i64_w, i32_w]
                  rfl
                 refine pure_ (i := 26) (N := some 105) (v := ?_) (a' := ?_) #[true, true, true, true, true, true, true, true, true, true, true, true, true, true, true, true, true, true, true, true, true, true, true, true, true, true, true, false, false, false, false] rfl rfl (any_of HT_.out (by kernel_rfl)) (fun _ _ _ h => h) (Or.inl ⟨by rfl, ?_⟩) ?_ ?_
                 rotate_left
                 ·intro w'
                  go_simp
                  with_reducible rfl
                 rotate_left
                 ·simp only [Act.put, List.setIfInBounds_toArray, List.set_cons_zero, List.set_cons_succ, i64_w, i32_w]
                  rfl
                 refine take_ (i := 27) (N := some 106) (v := ?_) (a' := ?_) #[true, true, true, true, true, true, true, true, true, true, true, true, true, true, true, true, true, true, true, true, true, true, true, true, true, true, true, true, false, false, false] rfl rfl (take_ofW HT_.out HW_.out (by kernel_rfl)) (fun _ _ _ h => h) (Or.inl ⟨by rfl, ?_⟩) hHeld ?_ ?_
                 rotate_left
                 ·rintro w' ⟨s0, s1, s2, s3, s4, s5, s6, s7⟩
                  go_simp
                  with_reducible rfl
                 rotate_left
                 ·simp only [Act.put, List.setIfInBounds_toArray, List.set_cons_zero, List.set_cons_succ, i64_w, i32_w]
                  rfl
                 refine pure_ (i := 28) (N := some 107) (v := ?_) (a' := ?_) #[true, true, true, true, true, true, true, true, true, true, true, true, true, true, true, true, true, true, true, true, true, true, true, true, true, true, true, true, true, false, false] rfl rfl (any_of HT_.out (by kernel_rfl)) (fun _ _ _ h => h) (Or.inl ⟨by rfl, ?_⟩) ?_ ?_
                 rotate_left
                 ·intro w'
                  go_simp
                  with_reducible rfl
                 rotate_left
                 ·simp only [Act.put, List.setIfInBounds_toArray, List.set_cons_zero, List.set_cons_succ, i64_w, i32_w]
                  rfl
                 refine pure_ (i := 29) (N := some 108) (v := ?_) (a' := ?_) #[true, true, true, true, true, true, true, true, true, true, true, true, true, true, true, true, true, true, true, true, true, true, true, true, true, true, true, true, true, true, false] rfl rfl (any_of HT_.out (by kernel_rfl)) (fun _ _ _ h => h) (Or.inl ⟨by rfl, ?_⟩) ?_ ?_
                 rotate_left
                 ·intro w'
                  go_simp
                  with_reducible rfl
                 rotate_left
                 ·simp only [Act.put, List.setIfInBounds_toArray, List.set_cons_zero, List.set_cons_succ, i64_w, i32_w]
                  rfl
                 refine pure_ (i := 30) (N := some 10) (v := ?_) (a' := ?_) #[true, true, true, true, true, true, true, true, true, true, true, true, true, true, true, true, true, true, true, true, true, true, true, true, true, true, true, true, true, true, true] rfl rfl (any_of HT_.out (by kernel_rfl)) (fun _ _ _ h => h) (Or.inl ⟨by rfl, ?_⟩) ?_ ?_
                 rotate_left
                 ·intro w'
                  go_simp
                  with_reducible rfl
                 rotate_left
                 ·simp only [Act.put, List.setIfInBounds_toArray, List.set_cons_zero, List.set_cons_succ, i64_w, i32_w]
                  rfl
                 refine done_ (done_of HT_.out (by kernel_rfl)) ?_
                 try go_wp2
                 go_ret
                 exact ⟨by first | rfl | (simp [errW_none, errW_some] <;> rfl) | (simp [*, errW_none, errW_some] <;> rfl), by repeat (first | (with_reducible first | exact HB.out | apply below_alloc | apply pw_below_drewN | apply below_drew1 | refine below_set ?_ GE217.out | refine below_set ?_ GE226.out | refine below_set ?_ GE240.out) | exact HB.out)⟩
                ·rw [if_neg c35] at H
                 exact absurd H (by simp)
               ·rw [if_neg c34] at H
                exact absurd H (by simp)
              ·rw [if_neg c33] at H
               have c33b0 : ((rd t219 a3) == (rd t233 0)) = false := beq_eq_false_iff_ne.mpr c33
               have c33b1 : ((rd t219 a3) != (rd t233 0)) = true := bne_iff_ne.mpr c33
               exact absurd H (by simp)
             ·rw [if_neg c32] at H
              exact absurd H (by simp)
            ·rw [if_neg c31] at H
             exact absurd H (by simp)
           ·rw [if_neg c30] at H
            have c30b0 : (t239 == 0) = false := beq_eq_false_iff_ne.mpr c30
            have c30b1 : (t239 != 0) = true := bne_iff_ne.mpr c30
            exact absurd H (by simp)
          ·rw [if_neg c29] at H
           have c29b0 : (t225 == 0) = false := beq_eq_false_iff_ne.mpr c29
           have c29b1 : (t225 != 0) = true := bne_iff_ne.mpr c29
           exact absurd H (by simp)
         ·rw [if_neg c27] at H
          exact absurd H (by simp)
        ·rw [if_neg c24] at H
         exact absurd H (by simp)
       ·rw [if_neg c21] at H
        exact absurd H (by simp)
      ·rw [if_neg c20] at H
       exact absurd H (by simp)
     ·rw [if_neg c19] at H
      exact absurd H (by simp)
 ·replace c7 := Bool.eq_false_iff.mpr c7
  subst c7
  have H1 : (none) = some r := by rw [if_neg (show ¬ (false = true) by decide)] at H; exact H
  clear H
  have H := H1
  clear H1
  exact absurd H (by simp)

/-- THE ONE PURE STATEMENT of carousellaw15_OptAlone. -/
def carousellaw15_OptAlone.Pure : Prop := ∀ (l0 : List Int) (l1 : List Int) (l2 : List (S30)) (a3 : Int) (a4_0 : Int) (a4_1 : Int) (a4_2 : Int), l0.length ≤ maxLen → (∀ x ∈ l0, (Lit.int .i64 x).wf = true) → l1.length ≤ maxLen → (∀ x ∈ l1, (Lit.int .i64 x).wf = true) → l2.length ≤ maxLen → (∀ x ∈ l2, (Lit.int .i64 x.f0).wf = true ∧ (Lit.int .u64 x.f1).wf = true) → (Lit.int .i64 a3).wf = true → (Lit.int .i64 a4_0).wf = true → (Lit.int .i64 a4_1).wf = true → (Lit.int .i64 a4_2).wf = true → ∃ k, carousellaw15_OptAlone.f k l0 l1 l2 a3 a4_0 a4_1 a4_2 = some true

end Go.Proofs.Ytaanhfcioemekaa.POptAlone
