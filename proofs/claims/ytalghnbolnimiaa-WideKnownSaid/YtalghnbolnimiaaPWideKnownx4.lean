/- The functions that the law WideKnown reaches, as Lean functions, and that each call of the Go function does what its Lean function says, wherever that one answers. Written by a program of mine over the print of the kit; Lean checks it. -/
import Derived.Test.YtalghnbolnimiaaPWideKnownx0
import Derived.Test.YtalghnbolnimiaaPWideKnownx1
import Derived.Test.YtalghnbolnimiaaPWideKnownx2
import Derived.Test.YtalghnbolnimiaaPWideKnownx3
namespace Go.Proofs.Ytalghnbolnimiaa.PWideKnown
open Go.RowKit Go.Proofs.YtalghnbolnimiaaW.PrintWords Go.Proofs.YtalghnbolnimiaaW.PrintLast Go.Proofs.YtalghnbolnimiaaW.PrintMore
attribute [local go_sem] max2_int min2_int max_two min_two max_three min_three max_four min_four   -- for this text's walks alone
set_option linter.unusedVariables false
set_option linter.unusedSimpArgs false

attribute [local go_sem high] eqA25
/-! ### wide_Shift: function 23 -/
mutual
def wide_Shift.j0 : Nat → Int → Bool → Int → Int → Option (Int × Int)
 | 0, _, _, _, _ => none
 | k + 1, x1, x13, x132000, x132001 => if x13 = true then (some (x132000, x132001)) else ((wide_down.f x132000 x132001 x1).bind fun bt133 => (if bt133.2.2.1 > 9223372036854775808 then (wide_Shift.j1 k true bt133.1 bt133.2.1) else (if bt133.2.2.1 = 9223372036854775808 then (if bt133.2.2.2 > 0 then (wide_Shift.j1 k true bt133.1 bt133.2.1) else (wide_Shift.j1 k ((Go.bits .and .u64 bt133.2.1 1) == 1) bt133.1 bt133.2.1)) else (wide_Shift.j1 k false bt133.1 bt133.2.1))))
def wide_Shift.j1 : Nat → Bool → Int → Int → Option (Int × Int)
 | 0, _, _, _ => none
 | k + 1, x37, x138000, x138001 => if x37 = true then ((wide_Of.f 1).bind fun bt138 => ((wide_Add.f x138000 x138001 bt138.1 bt138.2).bind fun bt140 => (some (bt140.1, bt140.2)))) else (some (x138000, x138001))
end
def wide_Shift.f (k : Nat) (a0_0 : Int) (a0_1 : Int) (a1 : Int) : Option (Int × Int) := if a1 < 1 then (wide_Shift.j0 k a1 true a0_0 a0_1) else (wide_Shift.j0 k a1 (decide (a1 > 126)) a0_0 a0_1)
theorem wide_Shift.mono_l : ∀ k, (∀ y0 y1 y2 y3, LeO (wide_Shift.j0 k y0 y1 y2 y3) (wide_Shift.j0 (k + 1) y0 y1 y2 y3)) ∧ (∀ y0 y1 y2, LeO (wide_Shift.j1 k y0 y1 y2) (wide_Shift.j1 (k + 1) y0 y1 y2))
 | 0 => ⟨fun _ _ _ _ r h => by simp [wide_Shift.j0] at h, fun _ _ _ r h => by simp [wide_Shift.j1] at h⟩
 | k + 1 => by
  obtain ⟨ih0, ih1⟩ := wide_Shift.mono_l k
  refine ⟨?_, ?_⟩
  ·intro y0 y1 y2 y3
   unfold wide_Shift.j0
   repeat' first
   | (with_reducible exact ih0 _ _ _ _)
   | (with_reducible exact ih1 _ _ _)
   | (with_reducible exact LeO.refl _)
   | (with_reducible exact LeO.none _)
   | (with_reducible refine LeO.ite ?_ ?_)
   | (with_reducible refine LeO.bind ?_ (fun _ => ?_))
   | exact ih0 _ _ _ _
   | exact ih1 _ _ _
   | exact LeO.none _
   | refine LeO.ite ?_ ?_
   | refine LeO.bind ?_ (fun _ => ?_)
  ·intro y0 y1 y2
   unfold wide_Shift.j1
   repeat' first
   | (with_reducible exact ih0 _ _ _ _)
   | (with_reducible exact ih1 _ _ _)
   | (with_reducible exact LeO.refl _)
   | (with_reducible exact LeO.none _)
   | (with_reducible refine LeO.ite ?_ ?_)
   | (with_reducible refine LeO.bind ?_ (fun _ => ?_))
   | exact ih0 _ _ _ _
   | exact ih1 _ _ _
   | exact LeO.none _
   | refine LeO.ite ?_ ?_
   | refine LeO.bind ?_ (fun _ => ?_)
theorem wide_Shift.mono : ∀ a0 a1 a2 k, LeO (wide_Shift.f k a0 a1 a2) (wide_Shift.f (k + 1) a0 a1 a2) := by
 intro a0 a1 a2 k
 obtain ⟨ih0, ih1⟩ := wide_Shift.mono_l k
 unfold wide_Shift.f
 repeat' first
   | (with_reducible exact ih0 _ _ _ _)
   | (with_reducible exact ih1 _ _ _)
   | (with_reducible exact LeO.refl _)
   | (with_reducible exact LeO.none _)
   | (with_reducible refine LeO.ite ?_ ?_)
   | (with_reducible refine LeO.bind ?_ (fun _ => ?_))
   | exact ih0 _ _ _ _
   | exact ih1 _ _ _
   | exact LeO.none _
   | refine LeO.ite ?_ ?_
   | refine LeO.bind ?_ (fun _ => ?_)
set_option maxHeartbeats 8000000 in
set_option maxRecDepth 100000 in
theorem wide_Shift.calls (k : Nat) (a0_0 : Int) (a0_1 : Int) (a1 : Int) (r1 : Int) (r2 : Int) (w : World) (h : wide_Shift.f k a0_0 a0_1 a1 = some (r1, r2)) :
  Calls Try.prog 23 #[.agg #[.int .i64 a0_0, .int .u64 a0_1], .int .i64 a1] w fun e w' => e = .returned (.agg #[.int .i64 r1, .int .u64 r2]) ∧ Below w.heap.size w w' := by
 have hu25 := Try.underlying25
 have HB := Aside0.mk (Below.refl w.heap.size w)
 have H : (if a1 < 1 then (wide_Shift.j0 k a1 true a0_0 a0_1) else (wide_Shift.j0 k a1 (decide (a1 > 126)) a0_0 a0_1)) = some (r1, r2) := h
 clear h
 have HC3 := Aside0.mk H
 clear H
 go_enter Try.func23, Try.ntmps23
 go_upto_region 1 with (first | ((with_reducible refine gate_dst (N := 2) rfl ?_); refine box_event ?hg (N := 2) ?hd (cs := #[.int .i64 a0_0, .int .u64 a0_1]) (t := 25) ?hr ?_; (case hd => rfl); (case hg => rfl); (case hr => first | (go_simp; done) | (go_simp; rfl)); intro gb131 hg w4 hbox hb; have BK131 := Aside0.mk (hbox); have GW131 := Aside0.mk (zs_ hg (zw0_ HB)); have GE131 := Aside0.mk (zs_ hg (zw0_ HB)); replace HB := Aside0.mk (below_step (zw0_ HB) hb); clear hb hbox hg) | ((with_reducible refine gate_dst (N := 4) rfl ?_); refine box_event ?hg (N := 4) ?hd (cs := #[.int .i64 0, .int .u64 0]) (t := 25) ?hr ?_; (case hd => rfl); (case hg => rfl); (case hr => first | (go_simp; done) | (go_simp; rfl)); intro gb132 hg w5 hbox hb; have BK132 := Aside0.mk (hbox); have GW132 := Aside0.mk (zs_ hg (zw1_ HB GE131)); have GE132 := Aside0.mk (zs_ hg (zw1_ HB GE131)); replace HB := Aside0.mk (below_step (zw1_ HB GE131) hb); have NB131_132 := Aside0.mk (zn_ hg BK131); have NB132_131 := Aside0.mk (zm_ hg BK131); replace BK131 := za_ BK131 hb; clear hb hbox hg))
 (try simp only [Act.put, List.setIfInBounds_toArray, List.set_cons_zero, List.set_cons_succ])
 go_cut [13] (fun v13 wc => ∃ (kq : Nat) (x13_2 : Bool), v13 = .bool x13_2 ∧ Aside0 (wide_Shift.j0 kq a1 x13_2 a0_0 a0_1 = some (r1, r2)) ∧ Aside0 (kq ≤ k) ∧ Aside0 (wc.heap[gb131]? = some (.cells #[.int .i64 a0_0, .int .u64 a0_1] 25 (0, 0))) ∧ Aside0 (wc.heap[gb132]? = some (.cells #[.int .i64 0, .int .u64 0] 25 (0, 0))) ∧ Aside0 (Below w.heap.size w wc))
 case first =>
  have H := HC3.out
  clear HC3
  by_cases c6 : a1 < 1
  ·rw [if_pos c6] at H
   have c6b0 : decide (a1 < 1) = true := decide_eq_true c6
   clear c6
   (first | rw [c6b0] | (simp only [i64_w, i32_w]; rw [c6b0]) | skip)
   have H' := Aside0.mk H
   clear H
   go_wp2
   go_meet
   case rel => exact ⟨_, (true), z1_, H', ⟨by first | omega | exact Nat.le_refl _⟩, ⟨zb_ BK131⟩, ⟨zb_ BK132⟩, ⟨zw2_ HB GE131 GE132⟩⟩
  rw [if_neg c6] at H
  have c6b0 : decide (a1 < 1) = false := decide_eq_false c6
  clear c6
  (first | rw [c6b0] | (simp only [i64_w, i32_w]; rw [c6b0]) | skip)
  have H' := Aside0.mk H
  clear H
  go_wp2
  go_meet
  case rel => exact ⟨_, (decide (a1 > 126)), z1_, H', ⟨by first | omega | exact Nat.le_refl _⟩, ⟨zb_ BK131⟩, ⟨zb_ BK132⟩, ⟨zw2_ HB GE131 GE132⟩⟩
 case rest =>
  clear HC3
  try clear c2
  try clear p2
  try clear c6
  try clear c6b0
  obtain ⟨kq, x13_2, rfl, HA, HJ2, BK131, BK132, HB⟩ := hcut
  cases kq with
  | zero => exact absurd HA.out (by simp [wide_Shift.j0])
  | succ kj2 =>
   have H := HA.out
   clear HA
   simp only [wide_Shift.j0] at H
   by_cases c7 : x13_2 = true
   ·subst c7
    have H1 : (some (a0_0, a0_1)) = some (r1, r2) := by rw [if_pos rfl] at H; exact H
    clear H
    have H := H1
    clear H1
    simp only [Option.some.injEq, Prod.mk.injEq] at H
    obtain ⟨rfl, rfl⟩ := H
    have hnb8 := NB131_132.out
    have hnc8 := NB132_131.out
    have hcz9_0 := zx_ (v := .int .i64 a0_0) BK131 0
    have hcz9_1 := zx_ (v := .int .u64 a0_1) BK131 1
    have hfz9_0 := blk_frozen BK131.out 0
    have hfz9_1 := blk_frozen BK131.out 1
    have hcz10_0 := zx_ (v := .int .i64 0) BK132 0
    have hcz10_1 := zx_ (v := .int .u64 0) BK132 1
    have hfz10_0 := blk_frozen BK132.out 0
    have hfz10_1 := blk_frozen BK132.out 1
    go_wp2
    refine bodyPost_ret (results_cell_row rfl _ _ gb132 25 #[.int .i64 a0_0, .int .u64 a0_1] (0, 0) _ rfl (zo2_ BK132) Try.underlying25 rfl (by kernel_rfl)) rfl ?_
    exact ⟨z0_, zw2_ HB GE131 GE132⟩
   replace c7 := Bool.eq_false_iff.mpr c7
   subst c7
   have H1 := H
   rw [if_neg (show ¬ (false = true) by decide)] at H1
   clear H
   have H := H1
   clear H1
   replace H := Option.bind_eq_some_iff.mp H
   obtain ⟨⟨t133, t134, t135, t136⟩, A110, H⟩ := H
   (try dsimp only at H)
   have A11 := Aside0.mk A110
   clear A110
   have HC12 := Aside0.mk H
   clear H
   have hnb13 := NB131_132.out
   have hnc13 := NB132_131.out
   have hcz14_0 := zx_ (v := .int .i64 a0_0) BK131 0
   have hcz14_1 := zx_ (v := .int .u64 a0_1) BK131 1
   have hfz14_0 := blk_frozen BK131.out 0
   have hfz14_1 := blk_frozen BK131.out 1
   go_upto_region 4 with (first | ((with_reducible refine gate_callee (f := 45) rfl ?_); refine zg_ (some 18) Try.func45 #[.agg #[.int .i64 a0_0, .int .u64 a0_1], .int .i64 a1] (h := ?_); (with_reducible refine (wide_down.calls a0_0 a0_1 a1 t133 t134 t135 t136 _ A11.out).mono ?_); rintro e w15 ⟨rfl, hb⟩; refine ⟨_, rfl, ?_⟩; replace BK131 := za_ BK131 hb; replace BK132 := za_ BK132 hb; replace HB := Aside0.mk (below_step (zw2_ HB GE131 GE132) hb); (try clear hb)) | ((with_reducible refine gate_dst (N := 5) rfl ?_); refine box_event ?hg (N := 5) ?hd (cs := #[.int .i64 0, .int .u64 0]) (t := 25) ?hr ?_; (case hd => rfl); (case hg => rfl); (case hr => first | (go_simp; done) | (go_simp; rfl)); intro gb137 hg w16 hbox hb; have BK137 := Aside0.mk (hbox); have GW137 := Aside0.mk (zs_ hg (zw2_ HB GE131 GE132)); have GE137 := Aside0.mk (zs_ hg (zw2_ HB GE131 GE132)); replace HB := Aside0.mk (below_step (zw2_ HB GE131 GE132) hb); have NB131_137 := Aside0.mk (zn_ hg BK131); have NB137_131 := Aside0.mk (zm_ hg BK131); replace BK131 := za_ BK131 hb; have NB132_137 := Aside0.mk (zn_ hg BK132); have NB137_132 := Aside0.mk (zm_ hg BK132); replace BK132 := za_ BK132 hb; clear hb hbox hg; have hnb17 := NB137_131.out; have hnc17 := NB131_137.out; have hnb18 := NB137_132.out; have hnc18 := NB132_137.out; have hcz19_0 := zx_ (v := .int .i64 0) BK137 0; have hcz19_1 := zx_ (v := .int .u64 0) BK137 1; have hfz19_0 := blk_frozen BK137.out 0; have hfz19_1 := blk_frozen BK137.out 1))
   (try simp only [Act.put, List.setIfInBounds_toArray, List.set_cons_zero, List.set_cons_succ])
   go_cut [37] (fun v37 wc => ∃ (kq : Nat) (x37_11 : Bool), v37 = .bool x37_11 ∧ Aside0 (wide_Shift.j1 kq x37_11 t133 t134 = some (r1, r2)) ∧ Aside0 (kq ≤ kj2) ∧ Aside0 (wc.heap[gb131]? = some (.cells #[.int .i64 a0_0, .int .u64 a0_1] 25 (0, 0))) ∧ Aside0 (wc.heap[gb132]? = some (.cells #[.int .i64 0, .int .u64 0] 25 (0, 0))) ∧ Aside0 (wc.heap[gb137]? = some (.cells #[.int .i64 t133, .int .u64 t134] 25 (0, 0))) ∧ Aside0 (Below w.heap.size w wc))
   case first =>
    have H := HC12.out
    clear HC12
    by_cases c20 : t135 > 9223372036854775808
    ·rw [if_pos c20] at H
     have c20b0 : decide (9223372036854775808 < t135) = true := decide_eq_true c20
     clear c20
     (first | rw [c20b0] | (simp only [i64_w, i32_w]; rw [c20b0]) | skip)
     have H' := Aside0.mk H
     clear H
     go_wp2
     go_meet
     case rel => exact ⟨_, (true), z1_, H', ⟨by have := HJ2.out; first | omega | exact Nat.le_refl _⟩, ⟨zv1_ BK131 NB131_137⟩, ⟨zv1_ BK132 NB132_137⟩, ⟨zo2_ BK137⟩, ⟨zw3_ HB GE131 GE132 GE137⟩⟩
    rw [if_neg c20] at H
    have c20b0 : decide (9223372036854775808 < t135) = false := decide_eq_false c20
    clear c20
    (first | rw [c20b0] | (simp only [i64_w, i32_w]; rw [c20b0]) | skip)
    by_cases c21 : t135 = 9223372036854775808
    rotate_left
    ·rw [if_neg c21] at H
     have c21b0 : (t135 == 9223372036854775808) = false := beq_eq_false_iff_ne.mpr c21
     have c21b1 : (t135 != 9223372036854775808) = true := bne_iff_ne.mpr c21
     have H' := Aside0.mk H
     clear H
     go_wp2
     go_meet
     case rel => exact ⟨_, (false), z1_, H', ⟨by have := HJ2.out; first | omega | exact Nat.le_refl _⟩, ⟨zv1_ BK131 NB131_137⟩, ⟨zv1_ BK132 NB132_137⟩, ⟨zo2_ BK137⟩, ⟨zw3_ HB GE131 GE132 GE137⟩⟩
    rw [if_pos c21] at H
    have c21b0 : (t135 == 9223372036854775808) = true := beq_iff_eq.mpr c21
    have c21b1 : (t135 != 9223372036854775808) = false := bne_eq_false_iff_eq.mpr c21
    clear c21
    by_cases c22 : t136 > 0
    ·rw [if_pos c22] at H
     have c22b0 : decide (0 < t136) = true := decide_eq_true c22
     clear c22
     have H' := Aside0.mk H
     clear H
     go_wp2
     go_meet
     case rel => exact ⟨_, (true), z1_, H', ⟨by have := HJ2.out; first | omega | exact Nat.le_refl _⟩, ⟨zv1_ BK131 NB131_137⟩, ⟨zv1_ BK132 NB132_137⟩, ⟨zo2_ BK137⟩, ⟨zw3_ HB GE131 GE132 GE137⟩⟩
    rw [if_neg c22] at H
    have c22b0 : decide (0 < t136) = false := decide_eq_false c22
    clear c22
    have H' := Aside0.mk H
    clear H
    have hnb23 := NB137_131.out
    have hnc23 := NB131_137.out
    have hnb24 := NB137_132.out
    have hnc24 := NB132_137.out
    have hcz25_0 := zx_ (v := .int .i64 0) BK137 0
    have hcz25_1 := zx_ (v := .int .u64 0) BK137 1
    have hfz25_0 := blk_frozen BK137.out 0
    have hfz25_1 := blk_frozen BK137.out 1
    go_wp2
    go_meet
    case rel => exact ⟨_, (((Go.bits .and .u64 t134 1) == 1)), z1_, H', ⟨by have := HJ2.out; first | omega | exact Nat.le_refl _⟩, ⟨zv1_ BK131 NB131_137⟩, ⟨zv1_ BK132 NB132_137⟩, ⟨zo2_ BK137⟩, ⟨zw3_ HB GE131 GE132 GE137⟩⟩
   case rest =>
    clear HC12
    try clear c1
    try clear c2
    try clear p2
    try clear c4
    try clear c6
    try clear c6b0
    try clear c7
    try clear c8
    try clear c13
    try clear c17
    try clear c18
    try clear c20
    try clear c20b0
    try clear c21
    try clear c21b0
    try clear c21b1
    try clear c22
    try clear c22b0
    try clear c23
    try clear c24
    try clear hcz10_0
    try clear hcz10_1
    try clear hcz14_0
    try clear hcz14_1
    try clear hcz19_0
    try clear hcz19_1
    try clear hcz25_0
    try clear hcz25_1
    try clear hcz9_0
    try clear hcz9_1
    try clear hfz10_0
    try clear hfz10_1
    try clear hfz14_0
    try clear hfz14_1
    try clear hfz19_0
    try clear hfz19_1
    try clear hfz25_0
    try clear hfz25_1
    try clear hfz9_0
    try clear hfz9_1
    try clear p2
    obtain ⟨kq, x37_11, rfl, HA, HJ11, BK131, BK132, BK137, HB⟩ := hcut
    cases kq with
    | zero => exact absurd HA.out (by simp [wide_Shift.j1])
    | succ kj11 =>
     have H := HA.out
     clear HA
     simp only [wide_Shift.j1] at H
     by_cases c26 : x37_11 = true
     rotate_left
     ·replace c26 := Bool.eq_false_iff.mpr c26
      subst c26
      have H1 : (some (t133, t134)) = some (r1, r2) := by rw [if_neg (show ¬ (false = true) by decide)] at H; exact H
      clear H
      have H := H1
      clear H1
      simp only [Option.some.injEq, Prod.mk.injEq] at H
      obtain ⟨rfl, rfl⟩ := H
      have hnb34 := NB137_131.out
      have hnc34 := NB131_137.out
      have hnb35 := NB137_132.out
      have hnc35 := NB132_137.out
      have hcz36_0 := zx_ (v := .int .i64 t133) BK137 0
      have hcz36_1 := zx_ (v := .int .u64 t134) BK137 1
      have hfz36_0 := blk_frozen BK137.out 0
      have hfz36_1 := blk_frozen BK137.out 1
      have hnb37 := NB132_131.out
      have hnc37 := NB131_132.out
      have hcz38_0 := zx_ (v := .int .i64 0) BK132 0
      have hcz38_1 := zx_ (v := .int .u64 0) BK132 1
      have hfz38_0 := blk_frozen BK132.out 0
      have hfz38_1 := blk_frozen BK132.out 1
      go_wp2
      refine bodyPost_ret (results_cell_row rfl _ _ gb132 25 #[.int .i64 t133, .int .u64 t134] (0, 0) _ rfl (zo2_ BK132) Try.underlying25 rfl (by kernel_rfl)) rfl ?_
      exact ⟨z0_, zw3_ HB GE131 GE132 GE137⟩
     subst c26
     have H1 := H
     rw [if_pos rfl] at H1
     clear H
     have H := H1
     clear H1
     replace H := Option.bind_eq_some_iff.mp H
     obtain ⟨⟨t138, t139⟩, A270, H⟩ := H
     replace H : ((wide_Add.f t133 t134 t138 t139).bind fun bt140 => (some (bt140.1, bt140.2))) = some (r1, r2) := H
     have A27 := Aside0.mk A270
     clear A270
     replace H := Option.bind_eq_some_iff.mp H
     obtain ⟨⟨t140, t141⟩, A280, H⟩ := H
     replace H : (some (t140, t141)) = some (r1, r2) := H
     have A28 := Aside0.mk A280
     clear A280
     simp only [Option.some.injEq, Prod.mk.injEq] at H
     obtain ⟨rfl, rfl⟩ := H
     try go_wp2
     replace BK131 := Aside0.mk (blk_drew BK131.out)
     replace BK132 := Aside0.mk (blk_drew BK132.out)
     replace BK137 := Aside0.mk (blk_drew BK137.out)
     replace HB := Aside0.mk (below_drew1 HB.out)
     refine start_ (n := 4) (S := fun w' => w'.cell? ⟨gb137, 0, none⟩ = some (.int .i64 t133) ∧ w'.cell? ⟨gb137, 1, none⟩ = some (.int .u64 t134)) (ds := []) #[false, false, false, false] (by kernel_rfl) rfl rfl ⟨(blk_cell BK137.out 0).trans rfl, (blk_cell BK137.out 1).trans rfl⟩ (fun hHeld => ?_)
     generalize wc.drew = w29 at BK131 BK132 BK137 HB hHeld ⊢
     refine take_ (i := 0) (N := some 38) (v := ?_) (a' := ?_) #[true, false, false, false] rfl rfl (by kernel_rfl) (fun _ _ _ h => h) (Or.inl ⟨by rfl, ?_⟩) hHeld ?_ ?_
     rotate_left
     ·rintro w' ⟨s0, s1⟩
      go_simp
      with_reducible rfl
     rotate_left
     ·simp only [Act.put, List.setIfInBounds_toArray, List.set_cons_zero, List.set_cons_succ, i64_w, i32_w]
      rfl
     refine one_ (i := 1) (N := some 39) #[true, true, false, false] rfl rfl (by kernel_rfl) (by decide) (fun K hK => ?_)
     refine yg_ Try.func14 #[.int .i64 1] ?_
     with_reducible refine (wide_Of.calls 1 t138 t139 _ A27.out).mono ?_
     rintro e w30 ⟨rfl, hb⟩
     refine ⟨_, rfl, ?_⟩
     replace BK131 := za_ BK131 hb
     replace BK132 := za_ BK132 hb
     replace BK137 := za_ BK137 hb
     replace HB := Aside0.mk (below_step (zw3_ HB GE131 GE132 GE137) hb)
     (try clear hb)
     (try clear hb2)
     (try clear hk)
     (try clear hi)
     refine hK.out _ _ ⟨zx_ BK137 0, zx_ BK137 1⟩ (fun hHeld => ?_)
     clear hK K
     refine zq_ (some 39) (h := ?_)
     refine one_ (i := 2) (N := some 40) #[true, true, true, false] rfl rfl (by kernel_rfl) (by decide) (fun K hK => ?_)
     refine yg_ Try.func17 #[.agg #[.int .i64 t133, .int .u64 t134], .agg #[.int .i64 t138, .int .u64 t139]] ?_
     with_reducible refine (wide_Add.calls t133 t134 t138 t139 t140 t141 _ A28.out).mono ?_
     rintro e w31 ⟨rfl, hb⟩
     refine ⟨_, rfl, ?_⟩
     replace BK131 := za_ BK131 hb
     replace BK132 := za_ BK132 hb
     replace BK137 := za_ BK137 hb
     replace HB := Aside0.mk (below_step (zw3_ HB GE131 GE132 GE137) hb)
     (try clear hb)
     (try clear hb2)
     (try clear hk)
     (try clear hi)
     refine hK.out _ _ ⟨zx_ BK137 0, zx_ BK137 1⟩ (fun hHeld => ?_)
     clear hK K
     refine zq_ (some 40) (h := ?_)
     refine one_ (i := 3) (N := none) #[true, true, true, true] rfl rfl (by kernel_rfl) (by decide) (fun K hK => ?_)
     have hs32 := zx_ (v := .int .i64 0) BK132 0
     have hfs32 := blk_frozen BK132.out 0
     have hns32_0 := NB131_132.out
     have hns32_2 := NB137_132.out
     have hms32_0 := NB132_131.out
     have hms32_2 := NB132_137.out
     have hs33 := zx_ (v := .int .u64 0) BK132 1
     have hfs33 := blk_frozen BK132.out 1
     have hns33_0 := NB131_132.out
     have hns33_2 := NB137_132.out
     have hms33_0 := NB132_131.out
     have hms33_2 := NB132_137.out
     refine skip_ (w1 := ?_) (by rfl) rfl ?_ ?_
     rotate_left
     ·go_simp
      rfl
     refine hK.out _ _ ⟨((cell_far (p := ⟨gb132, _, none⟩) NB137_132.out _).trans (((cell_far (p := ⟨gb132, _, none⟩) NB137_132.out _).trans (hHeld.1)))), ((cell_far (p := ⟨gb132, _, none⟩) NB137_132.out _).trans (((cell_far (p := ⟨gb132, _, none⟩) NB137_132.out _).trans (hHeld.2))))⟩ (fun hHeld => ?_)
     clear hK K
     refine done_ (by kernel_rfl) ?_
     try go_wp2
     refine bodyPost_ret (results_cell_row rfl _ _ gb132 25 #[.int .i64 t140, .int .u64 t141] (0, 0) _ rfl (zo2_ BK132) Try.underlying25 rfl (by kernel_rfl)) rfl ?_
     exact ⟨z0_, zw3_ HB GE131 GE132 GE137⟩

/-! ### carousellaw2_awake: function 11 -/
def carousellaw2_awake.f (k : Nat)  : Option (Bool) := (wide_Prod.f 4611686018427387904 4).bind fun bt142 => (if (bt142.1 == 1 && (bt142.2 == 0)) = true then ((wide_Of.f 3).bind fun bt144 => ((wide_Shift.f k bt144.1 bt144.2 1).bind fun bt146 => ((wide_Of.f 2).bind fun bt148 => (if (bt146.1 == bt148.1 && (bt146.2 == bt148.2)) = true then ((wide_Of.f (-1)).bind fun bt150 => (some (bt150.1 == (-1) && (bt150.2 == 18446744073709551615)))) else (none))))) else (none))
theorem carousellaw2_awake.mono : ∀ k, LeO (carousellaw2_awake.f k ) (carousellaw2_awake.f (k + 1) ) := by
 intro  k
 unfold carousellaw2_awake.f
 repeat' first
   | (with_reducible exact wide_Shift.mono _ _ _ _)
   | (with_reducible exact LeO.refl _)
   | (with_reducible exact LeO.none _)
   | (with_reducible refine LeO.ite ?_ ?_)
   | (with_reducible refine LeO.bind ?_ (fun _ => ?_))
   | exact wide_Shift.mono _ _ _ _
   | exact LeO.none _
   | refine LeO.ite ?_ ?_
   | refine LeO.bind ?_ (fun _ => ?_)
set_option maxHeartbeats 8000000 in
set_option maxRecDepth 100000 in
theorem carousellaw2_awake.calls (k : Nat)  (r : Bool) (w : World) (h : carousellaw2_awake.f k  = some r) :
  Calls Try.prog 11 #[] w fun e w' => e = .returned (.bool r) ∧ Below w.heap.size w w' := by
 have hu25 := Try.underlying25
 have HB := Aside0.mk (Below.refl w.heap.size w)
 have H : ((wide_Prod.f 4611686018427387904 4).bind fun bt142 => (if (bt142.1 == 1 && (bt142.2 == 0)) = true then ((wide_Of.f 3).bind fun bt144 => ((wide_Shift.f k bt144.1 bt144.2 1).bind fun bt146 => ((wide_Of.f 2).bind fun bt148 => (if (bt146.1 == bt148.1 && (bt146.2 == bt148.2)) = true then ((wide_Of.f (-1)).bind fun bt150 => (some (bt150.1 == (-1) && (bt150.2 == 18446744073709551615)))) else (none))))) else (none))) = some r := h
 clear h
 replace H := Option.bind_eq_some_iff.mp H
 obtain ⟨⟨t142, t143⟩, A10, H⟩ := H
 (try dsimp only at H)
 have A1 := Aside0.mk A10
 clear A10
 by_cases c2 : (t142 == 1 && (t143 == 0)) = true
 rotate_left
 ·rw [if_neg c2] at H
  exact absurd H (by simp)
 rw [if_pos c2] at H
 have c2b0 : (t142 == 1 && (t143 == 0)) = true := c2
 (try (have c2b1 : decide (t142 = 1 && (t143 == 0)) = true := by simpa using c2))
 (try (have c2b2 : (t142 == 1 && (t143 == 0)) = true := by simpa using c2))
 clear c2
 replace H := Option.bind_eq_some_iff.mp H
 obtain ⟨⟨t144, t145⟩, A30, H⟩ := H
 (try dsimp only at H)
 have A3 := Aside0.mk A30
 clear A30
 replace H := Option.bind_eq_some_iff.mp H
 obtain ⟨⟨t146, t147⟩, A40, H⟩ := H
 (try dsimp only at H)
 have A4 := Aside0.mk A40
 clear A40
 replace H := Option.bind_eq_some_iff.mp H
 obtain ⟨⟨t148, t149⟩, A50, H⟩ := H
 (try dsimp only at H)
 have A5 := Aside0.mk A50
 clear A50
 by_cases c6 : (t146 == t148 && (t147 == t149)) = true
 rotate_left
 ·rw [if_neg c6] at H
  exact absurd H (by simp)
 rw [if_pos c6] at H
 have c6b0 : (t146 == t148 && (t147 == t149)) = true := c6
 (try (have c6b1 : decide (t146 = t148 && (t147 == t149)) = true := by simpa using c6))
 (try (have c6b2 : (t146 == t148 && (t147 == t149)) = true := by simpa using c6))
 clear c6
 replace H := Option.bind_eq_some_iff.mp H
 obtain ⟨⟨t150, t151⟩, A70, H⟩ := H
 replace H : (some (t150 == (-1) && (t151 == 18446744073709551615))) = some r := H
 have A7 := Aside0.mk A70
 clear A70
 obtain rfl := Option.some.inj H
 go_enter Try.func11, Try.ntmps11
 go_wp2_with (first | ((with_reducible refine gate_callee (f := 12) rfl ?_); refine zg_ (some 1) Try.func12 #[.int .i64 4611686018427387904, .int .i64 4] (h := ?_); (with_reducible refine (wide_Prod.calls 4611686018427387904 4 t142 t143 _ A1.out).mono ?_); rintro e w8 ⟨rfl, hb⟩; refine ⟨_, rfl, ?_⟩; replace HB := Aside0.mk (below_step (zw0_ HB) hb); (try clear hb)) | (go_at_call 14; (with_reducible refine (wide_Of.calls 3 t144 t145 _ A3.out).mono ?_); rintro e w9 ⟨rfl, hb⟩; replace HB := Aside0.mk (below_step (zw0_ HB) hb); (try clear hb)) | (go_at_call 23; (with_reducible refine (wide_Shift.calls k t144 t145 1 t146 t147 _ A4.out).mono ?_); rintro e w10 ⟨rfl, hb⟩; replace HB := Aside0.mk (below_step (zw0_ HB) hb); (try clear hb)) | (go_at_call 14; (with_reducible refine (wide_Of.calls 2 t148 t149 _ A5.out).mono ?_); rintro e w11 ⟨rfl, hb⟩; replace HB := Aside0.mk (below_step (zw0_ HB) hb); (try clear hb)) | (go_at_call 14; (with_reducible refine (wide_Of.calls (-1) t150 t151 _ A7.out).mono ?_); rintro e w12 ⟨rfl, hb⟩; replace HB := Aside0.mk (below_step (zw0_ HB) hb); (try clear hb)))
 go_ret
 exact ⟨z0_, zw0_ HB⟩

/-! ### wide_Fix: function 21 -/
def wide_Fix.j0 : Nat → Bool → Int → Int → Option (Int)
 | 0, _, _, _ => none
 | k + 1, x3, x153000, x153001 => if x3 = true then (some 9223372036854775807) else (if x153000 < (-1) then (some (-9223372036854775808)) else (if x153000 = (-1) then (if x153001 < 9223372036854775808 then (some (-9223372036854775808)) else (some (wrap64 (x153001)))) else (some (wrap64 (x153001)))))
def wide_Fix.f (k : Nat) (a0_0 : Int) (a0_1 : Int) : Option (Int) := if a0_0 > 0 then (wide_Fix.j0 k true a0_0 a0_1) else (if a0_0 = 0 then (wide_Fix.j0 k (decide (a0_1 ≥ 9223372036854775808)) a0_0 a0_1) else (wide_Fix.j0 k false a0_0 a0_1))
theorem wide_Fix.mono_l : ∀ k, (∀ y0 y1 y2, LeO (wide_Fix.j0 k y0 y1 y2) (wide_Fix.j0 (k + 1) y0 y1 y2))
 | 0 => fun _ _ _ r h => by simp [wide_Fix.j0] at h
 | k + 1 => by
  have ih0 := wide_Fix.mono_l k
  ·intro y0 y1 y2
   unfold wide_Fix.j0
   repeat' first
   | (with_reducible exact ih0 _ _ _)
   | (with_reducible exact LeO.refl _)
   | (with_reducible exact LeO.none _)
   | (with_reducible refine LeO.ite ?_ ?_)
   | (with_reducible refine LeO.bind ?_ (fun _ => ?_))
   | exact ih0 _ _ _
   | exact LeO.none _
   | refine LeO.ite ?_ ?_
   | refine LeO.bind ?_ (fun _ => ?_)
theorem wide_Fix.mono : ∀ a0 a1 k, LeO (wide_Fix.f k a0 a1) (wide_Fix.f (k + 1) a0 a1) := by
 intro a0 a1 k
 have ih0 := wide_Fix.mono_l k
 unfold wide_Fix.f
 repeat' first
   | (with_reducible exact ih0 _ _ _)
   | (with_reducible exact LeO.refl _)
   | (with_reducible exact LeO.none _)
   | (with_reducible refine LeO.ite ?_ ?_)
   | (with_reducible refine LeO.bind ?_ (fun _ => ?_))
   | exact ih0 _ _ _
   | exact LeO.none _
   | refine LeO.ite ?_ ?_
   | refine LeO.bind ?_ (fun _ => ?_)
set_option maxHeartbeats 8000000 in
set_option maxRecDepth 100000 in
theorem wide_Fix.calls (k : Nat) (a0_0 : Int) (a0_1 : Int) (r : Int) (w : World) (h : wide_Fix.f k a0_0 a0_1 = some r) :
  Calls Try.prog 21 #[.agg #[.int .i64 a0_0, .int .u64 a0_1]] w fun e w' => e = .returned (.int .i64 r) ∧ Below w.heap.size w w' := by
 have hu25 := Try.underlying25
 have HB := Aside0.mk (Below.refl w.heap.size w)
 have H : (if a0_0 > 0 then (wide_Fix.j0 k true a0_0 a0_1) else (if a0_0 = 0 then (wide_Fix.j0 k (decide (a0_1 ≥ 9223372036854775808)) a0_0 a0_1) else (wide_Fix.j0 k false a0_0 a0_1))) = some r := h
 clear h
 have HC2 := Aside0.mk H
 clear H
 go_enter Try.func21, Try.ntmps21
 go_upto_region 1 with (first | ((with_reducible refine gate_dst (N := 1) rfl ?_); refine box_event ?hg (N := 1) ?hd (cs := #[.int .i64 a0_0, .int .u64 a0_1]) (t := 25) ?hr ?_; (case hd => rfl); (case hg => rfl); (case hr => first | (go_simp; done) | (go_simp; rfl)); intro gb152 hg w3 hbox hb; have BK152 := Aside0.mk (hbox); have GW152 := Aside0.mk (zs_ hg (zw0_ HB)); have GE152 := Aside0.mk (zs_ hg (zw0_ HB)); replace HB := Aside0.mk (below_step (zw0_ HB) hb); clear hb hbox hg))
 (try simp only [Act.put, List.setIfInBounds_toArray, List.set_cons_zero, List.set_cons_succ])
 go_cut [3] (fun v3 wc => ∃ (kq : Nat) (x3_1 : Bool), v3 = .bool x3_1 ∧ Aside0 (wide_Fix.j0 kq x3_1 a0_0 a0_1 = some r) ∧ Aside0 (kq ≤ k) ∧ Aside0 (wc.heap[gb152]? = some (.cells #[.int .i64 a0_0, .int .u64 a0_1] 25 (0, 0))) ∧ Aside0 (Below w.heap.size w wc))
 case first =>
  have H := HC2.out
  clear HC2
  by_cases c4 : a0_0 > 0
  ·rw [if_pos c4] at H
   have c4b0 : decide (0 < a0_0) = true := decide_eq_true c4
   clear c4
   (first | rw [c4b0] | (simp only [i64_w, i32_w]; rw [c4b0]) | skip)
   have H' := Aside0.mk H
   clear H
   have hcz5_0 := zx_ (v := .int .i64 a0_0) BK152 0
   have hcz5_1 := zx_ (v := .int .u64 a0_1) BK152 1
   have hfz5_0 := blk_frozen BK152.out 0
   have hfz5_1 := blk_frozen BK152.out 1
   go_wp2
   go_meet
   case rel => exact ⟨_, (true), z1_, H', ⟨by first | omega | exact Nat.le_refl _⟩, ⟨zb_ BK152⟩, ⟨zw1_ HB GE152⟩⟩
  rw [if_neg c4] at H
  have c4b0 : decide (0 < a0_0) = false := decide_eq_false c4
  clear c4
  (first | rw [c4b0] | (simp only [i64_w, i32_w]; rw [c4b0]) | skip)
  by_cases c6 : a0_0 = 0
  rotate_left
  ·rw [if_neg c6] at H
   have c6b0 : (a0_0 == 0) = false := beq_eq_false_iff_ne.mpr c6
   have c6b1 : (a0_0 != 0) = true := bne_iff_ne.mpr c6
   have H' := Aside0.mk H
   clear H
   have hcz8_0 := zx_ (v := .int .i64 a0_0) BK152 0
   have hcz8_1 := zx_ (v := .int .u64 a0_1) BK152 1
   have hfz8_0 := blk_frozen BK152.out 0
   have hfz8_1 := blk_frozen BK152.out 1
   go_wp2
   go_meet
   case rel => exact ⟨_, (false), z1_, H', ⟨by first | omega | exact Nat.le_refl _⟩, ⟨zb_ BK152⟩, ⟨zw1_ HB GE152⟩⟩
  rw [if_pos c6] at H
  have c6b0 : (a0_0 == 0) = true := beq_iff_eq.mpr c6
  have c6b1 : (a0_0 != 0) = false := bne_eq_false_iff_eq.mpr c6
  clear c6
  have H' := Aside0.mk H
  clear H
  have hcz7_0 := zx_ (v := .int .i64 a0_0) BK152 0
  have hcz7_1 := zx_ (v := .int .u64 a0_1) BK152 1
  have hfz7_0 := blk_frozen BK152.out 0
  have hfz7_1 := blk_frozen BK152.out 1
  go_wp2
  go_meet
  case rel => exact ⟨_, (decide (a0_1 ≥ 9223372036854775808)), z1_, H', ⟨by first | omega | exact Nat.le_refl _⟩, ⟨zb_ BK152⟩, ⟨zw1_ HB GE152⟩⟩
 case rest =>
  clear HC2
  try clear c2
  try clear p2
  try clear c4
  try clear c4b0
  try clear c6
  try clear c6b0
  try clear c6b1
  try clear hcz5_0
  try clear hcz5_1
  try clear hcz7_0
  try clear hcz7_1
  try clear hcz8_0
  try clear hcz8_1
  try clear hfz5_0
  try clear hfz5_1
  try clear hfz7_0
  try clear hfz7_1
  try clear hfz8_0
  try clear hfz8_1
  obtain ⟨kq, x3_1, rfl, HA, HJ1, BK152, HB⟩ := hcut
  cases kq with
  | zero => exact absurd HA.out (by simp [wide_Fix.j0])
  | succ kj1 =>
   have H := HA.out
   clear HA
   simp only [wide_Fix.j0] at H
   by_cases c9 : x3_1 = true
   ·subst c9
    have H1 : (some 9223372036854775807) = some r := by rw [if_pos rfl] at H; exact H
    clear H
    have H := H1
    clear H1
    obtain rfl := Option.some.inj H
    go_wp2
    go_ret
    exact ⟨z0_, zw1_ HB GE152⟩
   replace c9 := Bool.eq_false_iff.mpr c9
   subst c9
   have H1 := H
   rw [if_neg (show ¬ (false = true) by decide)] at H1
   clear H
   have H := H1
   clear H1
   by_cases c10 : a0_0 < (-1)
   ·rw [if_pos c10] at H
    have c10b0 : decide (a0_0 < (-1)) = true := decide_eq_true c10
    clear c10
    obtain rfl := Option.some.inj H
    have hcz11_0 := zx_ (v := .int .i64 a0_0) BK152 0
    have hcz11_1 := zx_ (v := .int .u64 a0_1) BK152 1
    have hfz11_0 := blk_frozen BK152.out 0
    have hfz11_1 := blk_frozen BK152.out 1
    go_wp2
    go_ret
    exact ⟨z0_, zw1_ HB GE152⟩
   rw [if_neg c10] at H
   have c10b0 : decide (a0_0 < (-1)) = false := decide_eq_false c10
   clear c10
   by_cases c12 : a0_0 = (-1)
   rotate_left
   ·rw [if_neg c12] at H
    have c12b0 : (a0_0 == (-1)) = false := beq_eq_false_iff_ne.mpr c12
    have c12b1 : (a0_0 != (-1)) = true := bne_iff_ne.mpr c12
    obtain rfl := Option.some.inj H
    have hcz16_0 := zx_ (v := .int .i64 a0_0) BK152 0
    have hcz16_1 := zx_ (v := .int .u64 a0_1) BK152 1
    have hfz16_0 := blk_frozen BK152.out 0
    have hfz16_1 := blk_frozen BK152.out 1
    go_wp2
    go_ret
    exact ⟨z0_, zw1_ HB GE152⟩
   rw [if_pos c12] at H
   have c12b0 : (a0_0 == (-1)) = true := beq_iff_eq.mpr c12
   have c12b1 : (a0_0 != (-1)) = false := bne_eq_false_iff_eq.mpr c12
   clear c12
   by_cases c13 : a0_1 < 9223372036854775808
   ·rw [if_pos c13] at H
    have c13b0 : decide (a0_1 < 9223372036854775808) = true := decide_eq_true c13
    clear c13
    obtain rfl := Option.some.inj H
    have hcz14_0 := zx_ (v := .int .i64 a0_0) BK152 0
    have hcz14_1 := zx_ (v := .int .u64 a0_1) BK152 1
    have hfz14_0 := blk_frozen BK152.out 0
    have hfz14_1 := blk_frozen BK152.out 1
    go_wp2
    go_ret
    exact ⟨z0_, zw1_ HB GE152⟩
   rw [if_neg c13] at H
   have c13b0 : decide (a0_1 < 9223372036854775808) = false := decide_eq_false c13
   clear c13
   obtain rfl := Option.some.inj H
   have hcz15_0 := zx_ (v := .int .i64 a0_0) BK152 0
   have hcz15_1 := zx_ (v := .int .u64 a0_1) BK152 1
   have hfz15_0 := blk_frozen BK152.out 0
   have hfz15_1 := blk_frozen BK152.out 1
   go_wp2
   go_ret
   exact ⟨z0_, zw1_ HB GE152⟩

/-! ### wide_Cmp: function 24 -/
def wide_Cmp.j0 : Nat → Bool → Int → Int → Int → Int → Option (Int)
 | 0, _, _, _, _, _ => none
 | k + 1, x5, x154000, x154001, x155000, x155001 => if x5 = true then (some (-1)) else (if (x154000 == x155000 && (x154001 == x155001)) = true then (some 0) else (some 1))
def wide_Cmp.f (k : Nat) (a0_0 : Int) (a0_1 : Int) (a1_0 : Int) (a1_1 : Int) : Option (Int) := if a0_0 < a1_0 then (wide_Cmp.j0 k true a0_0 a0_1 a1_0 a1_1) else (if a0_0 = a1_0 then (wide_Cmp.j0 k (decide (a0_1 < a1_1)) a0_0 a0_1 a1_0 a1_1) else (wide_Cmp.j0 k false a0_0 a0_1 a1_0 a1_1))
theorem wide_Cmp.mono_l : ∀ k, (∀ y0 y1 y2 y3 y4, LeO (wide_Cmp.j0 k y0 y1 y2 y3 y4) (wide_Cmp.j0 (k + 1) y0 y1 y2 y3 y4))
 | 0 => fun _ _ _ _ _ r h => by simp [wide_Cmp.j0] at h
 | k + 1 => by
  have ih0 := wide_Cmp.mono_l k
  ·intro y0 y1 y2 y3 y4
   unfold wide_Cmp.j0
   repeat' first
   | (with_reducible exact ih0 _ _ _ _ _)
   | (with_reducible exact LeO.refl _)
   | (with_reducible exact LeO.none _)
   | (with_reducible refine LeO.ite ?_ ?_)
   | (with_reducible refine LeO.bind ?_ (fun _ => ?_))
   | exact ih0 _ _ _ _ _
   | exact LeO.none _
   | refine LeO.ite ?_ ?_
   | refine LeO.bind ?_ (fun _ => ?_)
theorem wide_Cmp.mono : ∀ a0 a1 a2 a3 k, LeO (wide_Cmp.f k a0 a1 a2 a3) (wide_Cmp.f (k + 1) a0 a1 a2 a3) := by
 intro a0 a1 a2 a3 k
 have ih0 := wide_Cmp.mono_l k
 unfold wide_Cmp.f
 repeat' first
   | (with_reducible exact ih0 _ _ _ _ _)
   | (with_reducible exact LeO.refl _)
   | (with_reducible exact LeO.none _)
   | (with_reducible refine LeO.ite ?_ ?_)
   | (with_reducible refine LeO.bind ?_ (fun _ => ?_))
   | exact ih0 _ _ _ _ _
   | exact LeO.none _
   | refine LeO.ite ?_ ?_
   | refine LeO.bind ?_ (fun _ => ?_)
set_option maxHeartbeats 8000000 in
set_option maxRecDepth 100000 in
theorem wide_Cmp.calls (k : Nat) (a0_0 : Int) (a0_1 : Int) (a1_0 : Int) (a1_1 : Int) (r : Int) (w : World) (h : wide_Cmp.f k a0_0 a0_1 a1_0 a1_1 = some r) :
  Calls Try.prog 24 #[.agg #[.int .i64 a0_0, .int .u64 a0_1], .agg #[.int .i64 a1_0, .int .u64 a1_1]] w fun e w' => e = .returned (.int .i64 r) ∧ Below w.heap.size w w' := by
 have hu25 := Try.underlying25
 have HB := Aside0.mk (Below.refl w.heap.size w)
 have H : (if a0_0 < a1_0 then (wide_Cmp.j0 k true a0_0 a0_1 a1_0 a1_1) else (if a0_0 = a1_0 then (wide_Cmp.j0 k (decide (a0_1 < a1_1)) a0_0 a0_1 a1_0 a1_1) else (wide_Cmp.j0 k false a0_0 a0_1 a1_0 a1_1))) = some r := h
 clear h
 have HC3 := Aside0.mk H
 clear H
 go_enter Try.func24, Try.ntmps24
 go_upto_region 1 with (first | ((with_reducible refine gate_dst (N := 2) rfl ?_); refine box_event ?hg (N := 2) ?hd (cs := #[.int .i64 a0_0, .int .u64 a0_1]) (t := 25) ?hr ?_; (case hd => rfl); (case hg => rfl); (case hr => first | (go_simp; done) | (go_simp; rfl)); intro gb153 hg w4 hbox hb; have BK153 := Aside0.mk (hbox); have GW153 := Aside0.mk (zs_ hg (zw0_ HB)); have GE153 := Aside0.mk (zs_ hg (zw0_ HB)); replace HB := Aside0.mk (below_step (zw0_ HB) hb); clear hb hbox hg) | ((with_reducible refine gate_dst (N := 3) rfl ?_); refine box_event ?hg (N := 3) ?hd (cs := #[.int .i64 a1_0, .int .u64 a1_1]) (t := 25) ?hr ?_; (case hd => rfl); (case hg => rfl); (case hr => first | (go_simp; done) | (go_simp; rfl)); intro gb154 hg w5 hbox hb; have BK154 := Aside0.mk (hbox); have GW154 := Aside0.mk (zs_ hg (zw1_ HB GE153)); have GE154 := Aside0.mk (zs_ hg (zw1_ HB GE153)); replace HB := Aside0.mk (below_step (zw1_ HB GE153) hb); have NB153_154 := Aside0.mk (zn_ hg BK153); have NB154_153 := Aside0.mk (zm_ hg BK153); replace BK153 := za_ BK153 hb; clear hb hbox hg))
 (try simp only [Act.put, List.setIfInBounds_toArray, List.set_cons_zero, List.set_cons_succ])
 go_cut [5] (fun v5 wc => ∃ (kq : Nat) (x5_2 : Bool), v5 = .bool x5_2 ∧ Aside0 (wide_Cmp.j0 kq x5_2 a0_0 a0_1 a1_0 a1_1 = some r) ∧ Aside0 (kq ≤ k) ∧ Aside0 (wc.heap[gb153]? = some (.cells #[.int .i64 a0_0, .int .u64 a0_1] 25 (0, 0))) ∧ Aside0 (wc.heap[gb154]? = some (.cells #[.int .i64 a1_0, .int .u64 a1_1] 25 (0, 0))) ∧ Aside0 (Below w.heap.size w wc))
 case first =>
  have H := HC3.out
  clear HC3
  by_cases c6 : a0_0 < a1_0
  ·rw [if_pos c6] at H
   have c6b0 : decide (a0_0 < a1_0) = true := decide_eq_true c6
   clear c6
   (first | rw [c6b0] | (simp only [i64_w, i32_w]; rw [c6b0]) | skip)
   have H' := Aside0.mk H
   clear H
   have hnb7 := NB153_154.out
   have hnc7 := NB154_153.out
   have hcz8_0 := zx_ (v := .int .i64 a0_0) BK153 0
   have hcz8_1 := zx_ (v := .int .u64 a0_1) BK153 1
   have hfz8_0 := blk_frozen BK153.out 0
   have hfz8_1 := blk_frozen BK153.out 1
   have hcz9_0 := zx_ (v := .int .i64 a1_0) BK154 0
   have hcz9_1 := zx_ (v := .int .u64 a1_1) BK154 1
   have hfz9_0 := blk_frozen BK154.out 0
   have hfz9_1 := blk_frozen BK154.out 1
   go_wp2
   go_meet
   case rel => exact ⟨_, (true), z1_, H', ⟨by first | omega | exact Nat.le_refl _⟩, ⟨zb_ BK153⟩, ⟨zb_ BK154⟩, ⟨zw2_ HB GE153 GE154⟩⟩
  rw [if_neg c6] at H
  have c6b0 : decide (a0_0 < a1_0) = false := decide_eq_false c6
  clear c6
  (first | rw [c6b0] | (simp only [i64_w, i32_w]; rw [c6b0]) | skip)
  by_cases c10 : a0_0 = a1_0
  rotate_left
  ·rw [if_neg c10] at H
   have c10b0 : (a0_0 == a1_0) = false := beq_eq_false_iff_ne.mpr c10
   have c10b1 : (a0_0 != a1_0) = true := bne_iff_ne.mpr c10
   have H' := Aside0.mk H
   clear H
   have hnb14 := NB153_154.out
   have hnc14 := NB154_153.out
   have hcz15_0 := zx_ (v := .int .i64 a0_0) BK153 0
   have hcz15_1 := zx_ (v := .int .u64 a0_1) BK153 1
   have hfz15_0 := blk_frozen BK153.out 0
   have hfz15_1 := blk_frozen BK153.out 1
   have hcz16_0 := zx_ (v := .int .i64 a1_0) BK154 0
   have hcz16_1 := zx_ (v := .int .u64 a1_1) BK154 1
   have hfz16_0 := blk_frozen BK154.out 0
   have hfz16_1 := blk_frozen BK154.out 1
   go_wp2
   go_meet
   case rel => exact ⟨_, (false), z1_, H', ⟨by first | omega | exact Nat.le_refl _⟩, ⟨zb_ BK153⟩, ⟨zb_ BK154⟩, ⟨zw2_ HB GE153 GE154⟩⟩
  rw [if_pos c10] at H
  have c10b0 : (a0_0 == a1_0) = true := beq_iff_eq.mpr c10
  have c10b1 : (a0_0 != a1_0) = false := bne_eq_false_iff_eq.mpr c10
  clear c10
  have H' := Aside0.mk H
  clear H
  have hnb11 := NB153_154.out
  have hnc11 := NB154_153.out
  have hcz12_0 := zx_ (v := .int .i64 a0_0) BK153 0
  have hcz12_1 := zx_ (v := .int .u64 a0_1) BK153 1
  have hfz12_0 := blk_frozen BK153.out 0
  have hfz12_1 := blk_frozen BK153.out 1
  have hcz13_0 := zx_ (v := .int .i64 a1_0) BK154 0
  have hcz13_1 := zx_ (v := .int .u64 a1_1) BK154 1
  have hfz13_0 := blk_frozen BK154.out 0
  have hfz13_1 := blk_frozen BK154.out 1
  go_wp2
  go_meet
  case rel => exact ⟨_, (decide (a0_1 < a1_1)), z1_, H', ⟨by first | omega | exact Nat.le_refl _⟩, ⟨zb_ BK153⟩, ⟨zb_ BK154⟩, ⟨zw2_ HB GE153 GE154⟩⟩
 case rest =>
  clear HC3
  try clear c1
  try clear c2
  try clear p2
  try clear c6
  try clear c6b0
  try clear c7
  try clear c10
  try clear c10b0
  try clear c10b1
  try clear c11
  try clear c14
  try clear hcz12_0
  try clear hcz12_1
  try clear hcz13_0
  try clear hcz13_1
  try clear hcz15_0
  try clear hcz15_1
  try clear hcz16_0
  try clear hcz16_1
  try clear hcz8_0
  try clear hcz8_1
  try clear hcz9_0
  try clear hcz9_1
  try clear hfz12_0
  try clear hfz12_1
  try clear hfz13_0
  try clear hfz13_1
  try clear hfz15_0
  try clear hfz15_1
  try clear hfz16_0
  try clear hfz16_1
  try clear hfz8_0
  try clear hfz8_1
  try clear hfz9_0
  try clear hfz9_1
  obtain ⟨kq, x5_2, rfl, HA, HJ2, BK153, BK154, HB⟩ := hcut
  cases kq with
  | zero => exact absurd HA.out (by simp [wide_Cmp.j0])
  | succ kj2 =>
   have H := HA.out
   clear HA
   simp only [wide_Cmp.j0] at H
   by_cases c17 : x5_2 = true
   ·subst c17
    have H1 : (some (-1)) = some r := by rw [if_pos rfl] at H; exact H
    clear H
    have H := H1
    clear H1
    obtain rfl := Option.some.inj H
    go_wp2
    go_ret
    exact ⟨z0_, zw2_ HB GE153 GE154⟩
   replace c17 := Bool.eq_false_iff.mpr c17
   subst c17
   have H1 := H
   rw [if_neg (show ¬ (false = true) by decide)] at H1
   clear H
   have H := H1
   clear H1
   by_cases c18 : (a0_0 == a1_0 && (a0_1 == a1_1)) = true
   ·rw [if_pos c18] at H
    have c18b0 : (a0_0 == a1_0 && (a0_1 == a1_1)) = true := c18
    (try (have c18b1 : decide (a0_0 = a1_0 && (a0_1 == a1_1)) = true := by simpa using c18))
    (try (have c18b2 : (a0_0 == a1_0 && (a0_1 == a1_1)) = true := by simpa using c18))
    clear c18
    obtain rfl := Option.some.inj H
    have hnb19 := NB153_154.out
    have hnc19 := NB154_153.out
    have hcz20_0 := zx_ (v := .int .i64 a0_0) BK153 0
    have hcz20_1 := zx_ (v := .int .u64 a0_1) BK153 1
    have hfz20_0 := blk_frozen BK153.out 0
    have hfz20_1 := blk_frozen BK153.out 1
    have hcz21_0 := zx_ (v := .int .i64 a1_0) BK154 0
    have hcz21_1 := zx_ (v := .int .u64 a1_1) BK154 1
    have hfz21_0 := blk_frozen BK154.out 0
    have hfz21_1 := blk_frozen BK154.out 1
    go_wp2
    go_ret
    exact ⟨z0_, zw2_ HB GE153 GE154⟩
   rw [if_neg c18] at H
   have c18b0 : (a0_0 == a1_0 && (a0_1 == a1_1)) = false := by simpa using c18
   (try (have c18b1 : decide (a0_0 = a1_0 && (a0_1 == a1_1)) = false := by simpa using c18))
   (try (have c18b2 : (a0_0 == a1_0 && (a0_1 == a1_1)) = false := by simpa using c18))
   (try (have c18b3 : ¬ (a0_0 = a1_0 && (a0_1 == a1_1)) := by simpa using c18))
   clear c18
   obtain rfl := Option.some.inj H
   have hnb22 := NB153_154.out
   have hnc22 := NB154_153.out
   have hcz23_0 := zx_ (v := .int .i64 a0_0) BK153 0
   have hcz23_1 := zx_ (v := .int .u64 a0_1) BK153 1
   have hfz23_0 := blk_frozen BK153.out 0
   have hfz23_1 := blk_frozen BK153.out 1
   have hcz24_0 := zx_ (v := .int .i64 a1_0) BK154 0
   have hcz24_1 := zx_ (v := .int .u64 a1_1) BK154 1
   have hfz24_0 := blk_frozen BK154.out 0
   have hfz24_1 := blk_frozen BK154.out 1
   go_wp2
   go_ret
   exact ⟨z0_, zw2_ HB GE153 GE154⟩

-- NOT PRINTED: function 46 (pack_Read)

-- NOT PRINTED: function 66 (pack_Reader_Bytes)

-- NOT PRINTED: function 59 (pack_Reader_number)

-- NOT PRINTED: function 47 (pack_Reader_U64)

end Go.Proofs.Ytalghnbolnimiaa.PWideKnown
