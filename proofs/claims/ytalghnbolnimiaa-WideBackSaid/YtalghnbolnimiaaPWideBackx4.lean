/- The functions that the law WideBack reaches, as Lean functions, and that each call of the Go function does what its Lean function says, wherever that one answers. Written by a program of mine over the print of the kit; Lean checks it. -/
import Derived.Test.YtalghnbolnimiaaPWideBackx0
import Derived.Test.YtalghnbolnimiaaPWideBackx1
import Derived.Test.YtalghnbolnimiaaPWideBackx2
import Derived.Test.YtalghnbolnimiaaPWideBackx3
namespace Go.Proofs.Ytalghnbolnimiaa.PWideBack
open Go.RowKit Go.Proofs.YtalghnbolnimiaaW.PrintWords Go.Proofs.YtalghnbolnimiaaW.PrintLast Go.Proofs.YtalghnbolnimiaaW.PrintMore
attribute [local go_sem] max2_int min2_int max_two min_two max_three min_three max_four min_four   -- for this text's walks alone
set_option linter.unusedVariables false
set_option linter.unusedSimpArgs false

attribute [local go_sem high] eqA25
/-! ### wide_Shift: function 23 -/
mutual
def wide_Shift.j0 : Nat → Int → Bool → Int → Int → Option (Int × Int)
  | 0, _, _, _, _ => none
  | k + 1, x1, x13, x132000, x132001 => if x13 = true then (some (x132000, x132001)) else ((wide_down.f x132000 x132001 x1).bind fun bt133 => (if bt133.2.2.1 > 9223372036854775808 then (wide_Shift.j1 k true bt133.1 bt133.2.1) else (if bt133.2.2.1 = 9223372036854775808 then (if bt133.2.2.2 > 0 then (wide_Shift.j1 k true bt133.1 bt133.2.1) else (wide_Shift.j1 k ((Go.bits .and .u64 bt133.2.1 1) == 1) bt133.1 bt133.2.1)) else (wide_Shift.j1 k false bt133.1 bt133.2.1))))
def wide_Shift.j1 : Nat → Bool → Int → Int → Option (Int × Int)
  | 0, _, _, _ => none
  | k + 1, x37, x138000, x138001 => if x37 = true then ((wide_Of.f 1).bind fun bt138 => ((wide_Add.f x138000 x138001 bt138.1 bt138.2).bind fun bt140 => (some (bt140.1, bt140.2)))) else (some (x138000, x138001))
end
def wide_Shift.f (k : Nat) (a0_0 : Int) (a0_1 : Int) (a1 : Int) : Option (Int × Int) := if a1 < 1 then (wide_Shift.j0 k a1 true a0_0 a0_1) else (wide_Shift.j0 k a1 (decide (a1 > 126)) a0_0 a0_1)
theorem wide_Shift.mono_l : ∀ k, (∀ y0 y1 y2 y3, LeO (wide_Shift.j0 k y0 y1 y2 y3) (wide_Shift.j0 (k + 1) y0 y1 y2 y3)) ∧ (∀ y0 y1 y2, LeO (wide_Shift.j1 k y0 y1 y2) (wide_Shift.j1 (k + 1) y0 y1 y2))
  | 0 => ⟨fun _ _ _ _ r h => by simp [wide_Shift.j0] at h, fun _ _ _ r h => by simp [wide_Shift.j1] at h⟩
  | k + 1 => by
    obtain ⟨ih0, ih1⟩ := wide_Shift.mono_l k
    refine ⟨?_, ?_⟩
    · intro y0 y1 y2 y3
      unfold wide_Shift.j0
      repeat' first
      | (with_reducible exact ih0 _ _ _ _)
      | (with_reducible exact ih1 _ _ _)
      | (with_reducible exact LeO.refl _)
      | (with_reducible exact LeO.none _)
      | (with_reducible refine LeO.ite ?_ ?_)
      | (with_reducible refine LeO.bind ?_ (fun _ => ?_))
      | exact ih0 _ _ _ _
      | exact ih1 _ _ _
      | exact LeO.none _
      | refine LeO.ite ?_ ?_
      | refine LeO.bind ?_ (fun _ => ?_)
    · intro y0 y1 y2
      unfold wide_Shift.j1
      repeat' first
      | (with_reducible exact ih0 _ _ _ _)
      | (with_reducible exact ih1 _ _ _)
      | (with_reducible exact LeO.refl _)
      | (with_reducible exact LeO.none _)
      | (with_reducible refine LeO.ite ?_ ?_)
      | (with_reducible refine LeO.bind ?_ (fun _ => ?_))
      | exact ih0 _ _ _ _
      | exact ih1 _ _ _
      | exact LeO.none _
      | refine LeO.ite ?_ ?_
      | refine LeO.bind ?_ (fun _ => ?_)
theorem wide_Shift.mono : ∀ a0 a1 a2 k, LeO (wide_Shift.f k a0 a1 a2) (wide_Shift.f (k + 1) a0 a1 a2) := by
  intro a0 a1 a2 k
  obtain ⟨ih0, ih1⟩ := wide_Shift.mono_l k
  unfold wide_Shift.f
  repeat' first
      | (with_reducible exact ih0 _ _ _ _)
      | (with_reducible exact ih1 _ _ _)
      | (with_reducible exact LeO.refl _)
      | (with_reducible exact LeO.none _)
      | (with_reducible refine LeO.ite ?_ ?_)
      | (with_reducible refine LeO.bind ?_ (fun _ => ?_))
      | exact ih0 _ _ _ _
      | exact ih1 _ _ _
      | exact LeO.none _
      | refine LeO.ite ?_ ?_
      | refine LeO.bind ?_ (fun _ => ?_)
set_option maxHeartbeats 8000000 in
set_option maxRecDepth 100000 in
theorem wide_Shift.calls (k : Nat) (a0_0 : Int) (a0_1 : Int) (a1 : Int) (r1 : Int) (r2 : Int) (w : World) (h : wide_Shift.f k a0_0 a0_1 a1 = some (r1, r2)) :
    Calls Try.prog 23 #[.agg #[.int .i64 a0_0, .int .u64 a0_1], .int .i64 a1] w fun e w' => e = .returned (.agg #[.int .i64 r1, .int .u64 r2]) ∧ Below w.heap.size w w' := by
  have hu25 := Try.underlying25
  have HB := Aside0.mk (Below.refl w.heap.size w)
  have H : (if a1 < 1 then (wide_Shift.j0 k a1 true a0_0 a0_1) else (wide_Shift.j0 k a1 (decide (a1 > 126)) a0_0 a0_1)) = some (r1, r2) := h
  clear h
  have HC3 := Aside0.mk H
  clear H
  go_enter Try.func23, Try.ntmps23
  go_upto_region 1 with (first | ((with_reducible refine gate_dst (N := 2) rfl ?_); refine box_event ?hg (N := 2) ?hd (cs := #[.int .i64 a0_0, .int .u64 a0_1]) (t := 25) ?hr ?_; (case hd => rfl); (case hg => rfl); (case hr => first | (go_simp; done) | (go_simp; rfl)); intro gb131 hg w4 hbox hb; have BK131 := Aside0.mk (hbox); have GW131 := Aside0.mk (zs_ hg (zw0_ HB)); have GE131 := Aside0.mk (zs_ hg (zw0_ HB)); replace HB := Aside0.mk (below_step (zw0_ HB) hb); clear hb hbox hg) | ((with_reducible refine gate_dst (N := 4) rfl ?_); refine box_event ?hg (N := 4) ?hd (cs := #[.int .i64 0, .int .u64 0]) (t := 25) ?hr ?_; (case hd => rfl); (case hg => rfl); (case hr => first | (go_simp; done) | (go_simp; rfl)); intro gb132 hg w5 hbox hb; have BK132 := Aside0.mk (hbox); have GW132 := Aside0.mk (zs_ hg (zw1_ HB GE131)); have GE132 := Aside0.mk (zs_ hg (zw1_ HB GE131)); replace HB := Aside0.mk (below_step (zw1_ HB GE131) hb); have NB131_132 := Aside0.mk (zn_ hg BK131); have NB132_131 := Aside0.mk (zm_ hg BK131); replace BK131 := za_ BK131 hb; clear hb hbox hg))
  (try simp only [Act.put, List.setIfInBounds_toArray, List.set_cons_zero, List.set_cons_succ])
  go_cut [13] (fun v13 wc => ∃ (kq : Nat) (x13_2 : Bool), v13 = .bool x13_2 ∧ Aside0 (wide_Shift.j0 kq a1 x13_2 a0_0 a0_1 = some (r1, r2)) ∧ Aside0 (kq ≤ k) ∧ Aside0 (wc.heap[gb131]? = some (.cells #[.int .i64 a0_0, .int .u64 a0_1] 25 (0, 0))) ∧ Aside0 (wc.heap[gb132]? = some (.cells #[.int .i64 0, .int .u64 0] 25 (0, 0))) ∧ Aside0 (Below w.heap.size w wc))
  case first =>
    have H := HC3.out
    clear HC3
    by_cases c6 : a1 < 1
    · rw [if_pos c6] at H
      have c6b0 : decide (a1 < 1) = true := decide_eq_true c6
      clear c6
      (first | rw [c6b0] | (simp only [i64_w, i32_w]; rw [c6b0]) | skip)
      have H' := Aside0.mk H
      clear H
      go_wp2
      go_meet
      case rel => exact ⟨_, (true), z1_, H', ⟨by first | omega | exact Nat.le_refl _⟩, ⟨zb_ BK131⟩, ⟨zb_ BK132⟩, ⟨zw2_ HB GE131 GE132⟩⟩
    · rw [if_neg c6] at H
      have c6b0 : decide (a1 < 1) = false := decide_eq_false c6
      clear c6
      (first | rw [c6b0] | (simp only [i64_w, i32_w]; rw [c6b0]) | skip)
      have H' := Aside0.mk H
      clear H
      go_wp2
      go_meet
      case rel => exact ⟨_, (decide (a1 > 126)), z1_, H', ⟨by first | omega | exact Nat.le_refl _⟩, ⟨zb_ BK131⟩, ⟨zb_ BK132⟩, ⟨zw2_ HB GE131 GE132⟩⟩
  case rest =>
    clear HC3
    try clear c2
    try clear p2
    try clear c6
    try clear c6b0
    obtain ⟨kq, x13_2, rfl, HA, HJ2, BK131, BK132, HB⟩ := hcut
    cases kq with
    | zero => exact absurd HA.out (by simp [wide_Shift.j0])
    | succ kj2 =>
      have H := HA.out
      clear HA
      simp only [wide_Shift.j0] at H
      by_cases c7 : x13_2 = true
      · subst c7
        have H1 : (some (a0_0, a0_1)) = some (r1, r2) := by rw [if_pos rfl] at H; exact H
        clear H
        have H := H1
        clear H1
        simp only [Option.some.injEq, Prod.mk.injEq] at H
        obtain ⟨rfl, rfl⟩ := H
        have hnb8 := NB131_132.out
        have hnc8 := NB132_131.out
        have hcz9_0 := zx_ (v := .int .i64 a0_0) BK131 0
        have hcz9_1 := zx_ (v := .int .u64 a0_1) BK131 1
        have hfz9_0 := blk_frozen BK131.out 0
        have hfz9_1 := blk_frozen BK131.out 1
        have hcz10_0 := zx_ (v := .int .i64 0) BK132 0
        have hcz10_1 := zx_ (v := .int .u64 0) BK132 1
        have hfz10_0 := blk_frozen BK132.out 0
        have hfz10_1 := blk_frozen BK132.out 1
        go_wp2
        refine bodyPost_ret (results_cell_row rfl _ _ gb132 25 #[.int .i64 a0_0, .int .u64 a0_1] (0, 0) _ rfl (zo2_ BK132) Try.underlying25 rfl (by kernel_rfl)) rfl ?_
        exact ⟨z0_, zw2_ HB GE131 GE132⟩
      · replace c7 := Bool.eq_false_iff.mpr c7
        subst c7
        have H1 := H
        rw [if_neg (show ¬ (false = true) by decide)] at H1
        clear H
        have H := H1
        clear H1
        replace H := Option.bind_eq_some_iff.mp H
        obtain ⟨⟨t133, t134, t135, t136⟩, A110, H⟩ := H
        (try dsimp only at H)
        have A11 := Aside0.mk A110
        clear A110
        have HC12 := Aside0.mk H
        clear H
        have hnb13 := NB131_132.out
        have hnc13 := NB132_131.out
        have hcz14_0 := zx_ (v := .int .i64 a0_0) BK131 0
        have hcz14_1 := zx_ (v := .int .u64 a0_1) BK131 1
        have hfz14_0 := blk_frozen BK131.out 0
        have hfz14_1 := blk_frozen BK131.out 1
        go_upto_region 4 with (first | ((with_reducible refine gate_callee (f := 45) rfl ?_); refine zg_ (some 18) Try.func45 #[.agg #[.int .i64 a0_0, .int .u64 a0_1], .int .i64 a1] (h := ?_); (with_reducible refine (wide_down.calls a0_0 a0_1 a1 t133 t134 t135 t136 _ A11.out).mono ?_); rintro e w15 ⟨rfl, hb⟩; refine ⟨_, rfl, ?_⟩; replace BK131 := za_ BK131 hb; replace BK132 := za_ BK132 hb; replace HB := Aside0.mk (below_step (zw2_ HB GE131 GE132) hb); (try clear hb)) | ((with_reducible refine gate_dst (N := 5) rfl ?_); refine box_event ?hg (N := 5) ?hd (cs := #[.int .i64 0, .int .u64 0]) (t := 25) ?hr ?_; (case hd => rfl); (case hg => rfl); (case hr => first | (go_simp; done) | (go_simp; rfl)); intro gb137 hg w16 hbox hb; have BK137 := Aside0.mk (hbox); have GW137 := Aside0.mk (zs_ hg (zw2_ HB GE131 GE132)); have GE137 := Aside0.mk (zs_ hg (zw2_ HB GE131 GE132)); replace HB := Aside0.mk (below_step (zw2_ HB GE131 GE132) hb); have NB131_137 := Aside0.mk (zn_ hg BK131); have NB137_131 := Aside0.mk (zm_ hg BK131); replace BK131 := za_ BK131 hb; have NB132_137 := Aside0.mk (zn_ hg BK132); have NB137_132 := Aside0.mk (zm_ hg BK132); replace BK132 := za_ BK132 hb; clear hb hbox hg; have hnb17 := NB137_131.out; have hnc17 := NB131_137.out; have hnb18 := NB137_132.out; have hnc18 := NB132_137.out; have hcz19_0 := zx_ (v := .int .i64 0) BK137 0; have hcz19_1 := zx_ (v := .int .u64 0) BK137 1; have hfz19_0 := blk_frozen BK137.out 0; have hfz19_1 := blk_frozen BK137.out 1))
        (try simp only [Act.put, List.setIfInBounds_toArray, List.set_cons_zero, List.set_cons_succ])
        go_cut [37] (fun v37 wc => ∃ (kq : Nat) (x37_11 : Bool), v37 = .bool x37_11 ∧ Aside0 (wide_Shift.j1 kq x37_11 t133 t134 = some (r1, r2)) ∧ Aside0 (kq ≤ kj2) ∧ Aside0 (wc.heap[gb131]? = some (.cells #[.int .i64 a0_0, .int .u64 a0_1] 25 (0, 0))) ∧ Aside0 (wc.heap[gb132]? = some (.cells #[.int .i64 0, .int .u64 0] 25 (0, 0))) ∧ Aside0 (wc.heap[gb137]? = some (.cells #[.int .i64 t133, .int .u64 t134] 25 (0, 0))) ∧ Aside0 (Below w.heap.size w wc))
        case first =>
          have H := HC12.out
          clear HC12
          by_cases c20 : t135 > 9223372036854775808
          · rw [if_pos c20] at H
            have c20b0 : decide (9223372036854775808 < t135) = true := decide_eq_true c20
            clear c20
            (first | rw [c20b0] | (simp only [i64_w, i32_w]; rw [c20b0]) | skip)
            have H' := Aside0.mk H
            clear H
            go_wp2
            go_meet
            case rel => exact ⟨_, (true), z1_, H', ⟨by have := HJ2.out; first | omega | exact Nat.le_refl _⟩, ⟨zv1_ BK131 NB131_137⟩, ⟨zv1_ BK132 NB132_137⟩, ⟨zo2_ BK137⟩, ⟨zw3_ HB GE131 GE132 GE137⟩⟩
          · rw [if_neg c20] at H
            have c20b0 : decide (9223372036854775808 < t135) = false := decide_eq_false c20
            clear c20
            (first | rw [c20b0] | (simp only [i64_w, i32_w]; rw [c20b0]) | skip)
            by_cases c21 : t135 = 9223372036854775808
            · rw [if_pos c21] at H
              have c21b0 : (t135 == 9223372036854775808) = true := beq_iff_eq.mpr c21
              have c21b1 : (t135 != 9223372036854775808) = false := bne_eq_false_iff_eq.mpr c21
              clear c21
              by_cases c22 : t136 > 0
              · rw [if_pos c22] at H
                have c22b0 : decide (0 < t136) = true := decide_eq_true c22
                clear c22
                have H' := Aside0.mk H
                clear H
                go_wp2
                go_meet
                case rel => exact ⟨_, (true), z1_, H', ⟨by have := HJ2.out; first | omega | exact Nat.le_refl _⟩, ⟨zv1_ BK131 NB131_137⟩, ⟨zv1_ BK132 NB132_137⟩, ⟨zo2_ BK137⟩, ⟨zw3_ HB GE131 GE132 GE137⟩⟩
              · rw [if_neg c22] at H
                have c22b0 : decide (0 < t136) = false := decide_eq_false c22
                clear c22
                have H' := Aside0.mk H
                clear H
                have hnb23 := NB137_131.out
                have hnc23 := NB131_137.out
                have hnb24 := NB137_132.out
                have hnc24 := NB132_137.out
                have hcz25_0 := zx_ (v := .int .i64 0) BK137 0
                have hcz25_1 := zx_ (v := .int .u64 0) BK137 1
                have hfz25_0 := blk_frozen BK137.out 0
                have hfz25_1 := blk_frozen BK137.out 1
                go_wp2
                go_meet
                case rel => exact ⟨_, (((Go.bits .and .u64 t134 1) == 1)), z1_, H', ⟨by have := HJ2.out; first | omega | exact Nat.le_refl _⟩, ⟨zv1_ BK131 NB131_137⟩, ⟨zv1_ BK132 NB132_137⟩, ⟨zo2_ BK137⟩, ⟨zw3_ HB GE131 GE132 GE137⟩⟩
            · rw [if_neg c21] at H
              have c21b0 : (t135 == 9223372036854775808) = false := beq_eq_false_iff_ne.mpr c21
              have c21b1 : (t135 != 9223372036854775808) = true := bne_iff_ne.mpr c21
              have H' := Aside0.mk H
              clear H
              go_wp2
              go_meet
              case rel => exact ⟨_, (false), z1_, H', ⟨by have := HJ2.out; first | omega | exact Nat.le_refl _⟩, ⟨zv1_ BK131 NB131_137⟩, ⟨zv1_ BK132 NB132_137⟩, ⟨zo2_ BK137⟩, ⟨zw3_ HB GE131 GE132 GE137⟩⟩
        case rest =>
          clear HC12
          try clear c1
          try clear c2
          try clear p2
          try clear c4
          try clear c6
          try clear c6b0
          try clear c7
          try clear c8
          try clear c13
          try clear c17
          try clear c18
          try clear c20
          try clear c20b0
          try clear c21
          try clear c21b0
          try clear c21b1
          try clear c22
          try clear c22b0
          try clear c23
          try clear c24
          try clear hcz10_0
          try clear hcz10_1
          try clear hcz14_0
          try clear hcz14_1
          try clear hcz19_0
          try clear hcz19_1
          try clear hcz25_0
          try clear hcz25_1
          try clear hcz9_0
          try clear hcz9_1
          try clear hfz10_0
          try clear hfz10_1
          try clear hfz14_0
          try clear hfz14_1
          try clear hfz19_0
          try clear hfz19_1
          try clear hfz25_0
          try clear hfz25_1
          try clear hfz9_0
          try clear hfz9_1
          try clear p2
          obtain ⟨kq, x37_11, rfl, HA, HJ11, BK131, BK132, BK137, HB⟩ := hcut
          cases kq with
          | zero => exact absurd HA.out (by simp [wide_Shift.j1])
          | succ kj11 =>
            have H := HA.out
            clear HA
            simp only [wide_Shift.j1] at H
            by_cases c26 : x37_11 = true
            · subst c26
              have H1 := H
              rw [if_pos rfl] at H1
              clear H
              have H := H1
              clear H1
              replace H := Option.bind_eq_some_iff.mp H
              obtain ⟨⟨t138, t139⟩, A270, H⟩ := H
              replace H : ((wide_Add.f t133 t134 t138 t139).bind fun bt140 => (some (bt140.1, bt140.2))) = some (r1, r2) := H
              have A27 := Aside0.mk A270
              clear A270
              replace H := Option.bind_eq_some_iff.mp H
              obtain ⟨⟨t140, t141⟩, A280, H⟩ := H
              replace H : (some (t140, t141)) = some (r1, r2) := H
              have A28 := Aside0.mk A280
              clear A280
              simp only [Option.some.injEq, Prod.mk.injEq] at H
              obtain ⟨rfl, rfl⟩ := H
              try go_wp2
              replace BK131 := Aside0.mk (blk_drew BK131.out)
              replace BK132 := Aside0.mk (blk_drew BK132.out)
              replace BK137 := Aside0.mk (blk_drew BK137.out)
              replace HB := Aside0.mk (below_drew1 HB.out)
              refine start_ (n := 4) (S := fun w' => w'.cell? ⟨gb137, 0, none⟩ = some (.int .i64 t133) ∧ w'.cell? ⟨gb137, 1, none⟩ = some (.int .u64 t134)) (ds := []) #[false, false, false, false] (by kernel_rfl) rfl rfl ⟨(blk_cell BK137.out 0).trans rfl, (blk_cell BK137.out 1).trans rfl⟩ (fun hHeld => ?_)
              generalize wc.drew = w29 at BK131 BK132 BK137 HB hHeld ⊢
              refine take_ (i := 0) (N := some 38) (v := ?_) (a' := ?_) #[true, false, false, false] rfl rfl (by kernel_rfl) (fun _ _ _ h => h) (Or.inl ⟨by rfl, ?_⟩) hHeld ?_ ?_
              rotate_left
              · rintro w' ⟨s0, s1⟩
                go_simp
                with_reducible rfl
              rotate_left
              · simp only [Act.put, List.setIfInBounds_toArray, List.set_cons_zero, List.set_cons_succ, i64_w, i32_w]
                rfl
              refine one_ (i := 1) (N := some 39) #[true, true, false, false] rfl rfl (by kernel_rfl) (by decide) (fun K hK => ?_)
              refine yg_ Try.func14 #[.int .i64 1] ?_
              with_reducible refine (wide_Of.calls 1 t138 t139 _ A27.out).mono ?_
              rintro e w30 ⟨rfl, hb⟩
              refine ⟨_, rfl, ?_⟩
              replace BK131 := za_ BK131 hb
              replace BK132 := za_ BK132 hb
              replace BK137 := za_ BK137 hb
              replace HB := Aside0.mk (below_step (zw3_ HB GE131 GE132 GE137) hb)
              (try clear hb)
              (try clear hb2)
              (try clear hk)
              (try clear hi)
              refine hK.out _ _ ⟨zx_ BK137 0, zx_ BK137 1⟩ (fun hHeld => ?_)
              clear hK K
              refine zq_ (some 39) (h := ?_)
              refine one_ (i := 2) (N := some 40) #[true, true, true, false] rfl rfl (by kernel_rfl) (by decide) (fun K hK => ?_)
              refine yg_ Try.func17 #[.agg #[.int .i64 t133, .int .u64 t134], .agg #[.int .i64 t138, .int .u64 t139]] ?_
              with_reducible refine (wide_Add.calls t133 t134 t138 t139 t140 t141 _ A28.out).mono ?_
              rintro e w31 ⟨rfl, hb⟩
              refine ⟨_, rfl, ?_⟩
              replace BK131 := za_ BK131 hb
              replace BK132 := za_ BK132 hb
              replace BK137 := za_ BK137 hb
              replace HB := Aside0.mk (below_step (zw3_ HB GE131 GE132 GE137) hb)
              (try clear hb)
              (try clear hb2)
              (try clear hk)
              (try clear hi)
              refine hK.out _ _ ⟨zx_ BK137 0, zx_ BK137 1⟩ (fun hHeld => ?_)
              clear hK K
              refine zq_ (some 40) (h := ?_)
              refine one_ (i := 3) (N := none) #[true, true, true, true] rfl rfl (by kernel_rfl) (by decide) (fun K hK => ?_)
              have hs32 := zx_ (v := .int .i64 0) BK132 0
              have hfs32 := blk_frozen BK132.out 0
              have hns32_0 := NB131_132.out
              have hns32_2 := NB137_132.out
              have hms32_0 := NB132_131.out
              have hms32_2 := NB132_137.out
              have hs33 := zx_ (v := .int .u64 0) BK132 1
              have hfs33 := blk_frozen BK132.out 1
              have hns33_0 := NB131_132.out
              have hns33_2 := NB137_132.out
              have hms33_0 := NB132_131.out
              have hms33_2 := NB132_137.out
              refine skip_ (w1 := ?_) (by rfl) rfl ?_ ?_
              rotate_left
              · go_simp
                rfl
              refine hK.out _ _ ⟨((cell_far (p := ⟨gb132, _, none⟩) NB137_132.out _).trans (((cell_far (p := ⟨gb132, _, none⟩) NB137_132.out _).trans (hHeld.1)))), ((cell_far (p := ⟨gb132, _, none⟩) NB137_132.out _).trans (((cell_far (p := ⟨gb132, _, none⟩) NB137_132.out _).trans (hHeld.2))))⟩ (fun hHeld => ?_)
              clear hK K
              refine done_ (by kernel_rfl) ?_
              try go_wp2
              refine bodyPost_ret (results_cell_row rfl _ _ gb132 25 #[.int .i64 t140, .int .u64 t141] (0, 0) _ rfl (zo2_ BK132) Try.underlying25 rfl (by kernel_rfl)) rfl ?_
              exact ⟨z0_, zw3_ HB GE131 GE132 GE137⟩
            · replace c26 := Bool.eq_false_iff.mpr c26
              subst c26
              have H1 : (some (t133, t134)) = some (r1, r2) := by rw [if_neg (show ¬ (false = true) by decide)] at H; exact H
              clear H
              have H := H1
              clear H1
              simp only [Option.some.injEq, Prod.mk.injEq] at H
              obtain ⟨rfl, rfl⟩ := H
              have hnb34 := NB137_131.out
              have hnc34 := NB131_137.out
              have hnb35 := NB137_132.out
              have hnc35 := NB132_137.out
              have hcz36_0 := zx_ (v := .int .i64 t133) BK137 0
              have hcz36_1 := zx_ (v := .int .u64 t134) BK137 1
              have hfz36_0 := blk_frozen BK137.out 0
              have hfz36_1 := blk_frozen BK137.out 1
              have hnb37 := NB132_131.out
              have hnc37 := NB131_132.out
              have hcz38_0 := zx_ (v := .int .i64 0) BK132 0
              have hcz38_1 := zx_ (v := .int .u64 0) BK132 1
              have hfz38_0 := blk_frozen BK132.out 0
              have hfz38_1 := blk_frozen BK132.out 1
              go_wp2
              refine bodyPost_ret (results_cell_row rfl _ _ gb132 25 #[.int .i64 t133, .int .u64 t134] (0, 0) _ rfl (zo2_ BK132) Try.underlying25 rfl (by kernel_rfl)) rfl ?_
              exact ⟨z0_, zw3_ HB GE131 GE132 GE137⟩

/-! ### carousellaw2_awake: function 11 -/
def carousellaw2_awake.f (k : Nat)  : Option (Bool) := (wide_Prod.f 4611686018427387904 4).bind fun bt142 => (if (bt142.1 == 1 && (bt142.2 == 0)) = true then ((wide_Of.f 3).bind fun bt144 => ((wide_Shift.f k bt144.1 bt144.2 1).bind fun bt146 => ((wide_Of.f 2).bind fun bt148 => (if (bt146.1 == bt148.1 && (bt146.2 == bt148.2)) = true then ((wide_Of.f (-1)).bind fun bt150 => (some (bt150.1 == (-1) && (bt150.2 == 18446744073709551615)))) else (none))))) else (none))
theorem carousellaw2_awake.mono : ∀ k, LeO (carousellaw2_awake.f k ) (carousellaw2_awake.f (k + 1) ) := by
  intro  k
  unfold carousellaw2_awake.f
  repeat' first
      | (with_reducible exact wide_Shift.mono _ _ _ _)
      | (with_reducible exact LeO.refl _)
      | (with_reducible exact LeO.none _)
      | (with_reducible refine LeO.ite ?_ ?_)
      | (with_reducible refine LeO.bind ?_ (fun _ => ?_))
      | exact wide_Shift.mono _ _ _ _
      | exact LeO.none _
      | refine LeO.ite ?_ ?_
      | refine LeO.bind ?_ (fun _ => ?_)
set_option maxHeartbeats 8000000 in
set_option maxRecDepth 100000 in
theorem carousellaw2_awake.calls (k : Nat)  (r : Bool) (w : World) (h : carousellaw2_awake.f k  = some r) :
    Calls Try.prog 11 #[] w fun e w' => e = .returned (.bool r) ∧ Below w.heap.size w w' := by
  have hu25 := Try.underlying25
  have HB := Aside0.mk (Below.refl w.heap.size w)
  have H : ((wide_Prod.f 4611686018427387904 4).bind fun bt142 => (if (bt142.1 == 1 && (bt142.2 == 0)) = true then ((wide_Of.f 3).bind fun bt144 => ((wide_Shift.f k bt144.1 bt144.2 1).bind fun bt146 => ((wide_Of.f 2).bind fun bt148 => (if (bt146.1 == bt148.1 && (bt146.2 == bt148.2)) = true then ((wide_Of.f (-1)).bind fun bt150 => (some (bt150.1 == (-1) && (bt150.2 == 18446744073709551615)))) else (none))))) else (none))) = some r := h
  clear h
  replace H := Option.bind_eq_some_iff.mp H
  obtain ⟨⟨t142, t143⟩, A10, H⟩ := H
  (try dsimp only at H)
  have A1 := Aside0.mk A10
  clear A10
  by_cases c2 : (t142 == 1 && (t143 == 0)) = true
  · rw [if_pos c2] at H
    have c2b0 : (t142 == 1 && (t143 == 0)) = true := c2
    (try (have c2b1 : decide (t142 = 1 && (t143 == 0)) = true := by simpa using c2))
    (try (have c2b2 : (t142 == 1 && (t143 == 0)) = true := by simpa using c2))
    clear c2
    replace H := Option.bind_eq_some_iff.mp H
    obtain ⟨⟨t144, t145⟩, A30, H⟩ := H
    (try dsimp only at H)
    have A3 := Aside0.mk A30
    clear A30
    replace H := Option.bind_eq_some_iff.mp H
    obtain ⟨⟨t146, t147⟩, A40, H⟩ := H
    (try dsimp only at H)
    have A4 := Aside0.mk A40
    clear A40
    replace H := Option.bind_eq_some_iff.mp H
    obtain ⟨⟨t148, t149⟩, A50, H⟩ := H
    (try dsimp only at H)
    have A5 := Aside0.mk A50
    clear A50
    by_cases c6 : (t146 == t148 && (t147 == t149)) = true
    · rw [if_pos c6] at H
      have c6b0 : (t146 == t148 && (t147 == t149)) = true := c6
      (try (have c6b1 : decide (t146 = t148 && (t147 == t149)) = true := by simpa using c6))
      (try (have c6b2 : (t146 == t148 && (t147 == t149)) = true := by simpa using c6))
      clear c6
      replace H := Option.bind_eq_some_iff.mp H
      obtain ⟨⟨t150, t151⟩, A70, H⟩ := H
      replace H : (some (t150 == (-1) && (t151 == 18446744073709551615))) = some r := H
      have A7 := Aside0.mk A70
      clear A70
      obtain rfl := Option.some.inj H
      go_enter Try.func11, Try.ntmps11
      go_wp2_with (first | ((with_reducible refine gate_callee (f := 12) rfl ?_); refine zg_ (some 1) Try.func12 #[.int .i64 4611686018427387904, .int .i64 4] (h := ?_); (with_reducible refine (wide_Prod.calls 4611686018427387904 4 t142 t143 _ A1.out).mono ?_); rintro e w8 ⟨rfl, hb⟩; refine ⟨_, rfl, ?_⟩; replace HB := Aside0.mk (below_step (zw0_ HB) hb); (try clear hb)) | (go_at_call 14; (with_reducible refine (wide_Of.calls 3 t144 t145 _ A3.out).mono ?_); rintro e w9 ⟨rfl, hb⟩; replace HB := Aside0.mk (below_step (zw0_ HB) hb); (try clear hb)) | (go_at_call 23; (with_reducible refine (wide_Shift.calls k t144 t145 1 t146 t147 _ A4.out).mono ?_); rintro e w10 ⟨rfl, hb⟩; replace HB := Aside0.mk (below_step (zw0_ HB) hb); (try clear hb)) | (go_at_call 14; (with_reducible refine (wide_Of.calls 2 t148 t149 _ A5.out).mono ?_); rintro e w11 ⟨rfl, hb⟩; replace HB := Aside0.mk (below_step (zw0_ HB) hb); (try clear hb)) | (go_at_call 14; (with_reducible refine (wide_Of.calls (-1) t150 t151 _ A7.out).mono ?_); rintro e w12 ⟨rfl, hb⟩; replace HB := Aside0.mk (below_step (zw0_ HB) hb); (try clear hb)))
      go_ret
      exact ⟨z0_, zw0_ HB⟩
    · rw [if_neg c6] at H
      exact absurd H (by simp)
  · rw [if_neg c2] at H
    exact absurd H (by simp)

/-! ### pack_Read: function 46 -/
/-- A reader of bytes in memory: its block, what it still has to read. -/
def PRS_ (w : World) (g : Nat) (A : Option Addr) (c : Nat) (xs : List Int) : Prop := w.heap[g]? = some (.cells #[.slice A xs.length c, .bool false] 81 (0, 0)) ∧ Kd.C (Kd.int .u8) w A xs.length xs ∧ xs.length ≤ c ∧ ∀ ad, A = some ad → ad.block ≠ g
set_option maxHeartbeats 8000000 in
set_option maxRecDepth 100000 in
theorem pack_Read.calls (A0 : Option Addr) (c0 : Nat) (l0 : List Int) (w : World) (hr0 : Kd.C (Kd.int .u8) w A0 l0.length l0) (hc0 : l0.length ≤ c0) (hl : l0.length < 140737488355328) :
  Calls Try.prog 46 #[.slice A0 l0.length c0] w fun e w' => ∃ (g : Nat) (A : Option Addr) (c : Nat), e = .returned (.pointer (some ⟨g, 0, none⟩)) ∧ w.heap.size ≤ g ∧ PRS_ w' g A c l0 ∧ Below w.heap.size w w' := by
 have hu81 := Try.underlying81
 have HR0 := Aside0.mk hr0
 have HC0 := Aside0.mk hc0
 clear hr0 hc0
 have HB := Aside0.mk (Below.refl w.heap.size w)
 obtain ⟨y160, hy160⟩ : ∃ y_ : List Int, y_ = (([] : List Int)) := ⟨_, rfl⟩
 have Ny160 := Aside0.mk hy160
 have LMc4 : Aside0 (y160.length + l0.length < 140737488355328) := ⟨by rw [hy160]; simpa using hl⟩
 obtain ⟨y163, hy163⟩ : ∃ y_ : List Int, y_ = (y160 ++ l0) := ⟨_, rfl⟩
 have E1 : Aside0 (y163 = l0) := ⟨by rw [hy163, hy160]; rfl⟩
 have Ny163 := Aside0.mk hy163
 clear hy160 hy163 hl
 go_enter Try.func46, Try.ntmps46
 go_wp2_with (first | ((with_reducible refine gate_dst (N := 3) rfl ?_); refine Kd.R_lit (Kd.int .u8) _ 5 ?hg (N := 3) ?hd (xs := ([] : List Int)) (inner := []) (ok := fun _ => True) (okp := fun _ => True) ?hr ?hp (fun _ hk => hk) trivial (Below.refl _ _) (Nat.le_refl _) (by simp) ?_; (case hd => rfl); (case hg => rfl); (case hr => first | (go_simp; done) | (go_simp; rfl)); (case hp => exact (Reps.none _ _)); intro v161 w5 ho6 hb hg_ hnew_; clear hg_ hnew_; (first | rw [← Ny160.out] at ho6 | (simp only [Int.reduceToNat] at ho6; rw [← Ny160.out] at ho6)); have HO162 := Aside0.mk (Kd.R_lower ho6 (below_size (zw0_ HB))); replace HB := Aside0.mk (below_step (zw0_ HB) hb); clear hb ho6) | ((with_reducible refine gate_builtin (b := .append) (xs := #[.tmp 3, .tmp 4]) rfl ?_); at_builtin; refine Kd.R_append_rows (Kd.int .u8) (w0 := w) w.heap.size rfl (.tmp 3) (.tmp 4) 47 5 (.int .u8 0) 1 rfl Try.underlying47 info5 rfl (by decide) (by omega) v161 y160 l0 _ _ _ (fun _ => True) (fun _ => False) rfl rfl ?aO ?aR (fun _ _ h => h) (fun _ h => h.elim) ?aF ?aB ?aS ?aL ?_; (case aR => exact zk_ (Kd.C_below HR0.out HB.out)); (case aB => exact (zw0_ HB)); (case aF => exact (fun _ _ => trivial)); (case aO => exact (zr_ HO162.out)); (case aS => exact (below_size (zw0_ HB))); (case aL => have := LMc4.out; omega); intro v164 w7 ho hb hg hat; rw [← Ny163.out] at ho; replace HB := Aside0.mk (hb); have HO165 := Aside0.mk (ho); clear HO162; clear ho hb hg hat; obtain ⟨Ao8, co8, eo8⟩ := Kd.R_slice HO165.out; subst eo8) | ((with_reducible refine gate_dst (N := 7) rfl ?_); refine box_event ?hg (N := 7) ?hd (cs := #[.slice Ao8 y163.length co8, .bool false]) (t := 81) ?hr ?_; (case hd => rfl); (case hg => rfl); (case hr => first | (go_simp; done) | (go_simp; rfl)); intro gb9 hg w9 hbox hb; have BK9 := Aside0.mk hbox; have GE9 := Aside0.mk (zs_ hg (zw0_ HB)); have HN9 := Aside0.mk (show ∀ ad, Ao8 = some ad → ad.block ≠ gb9 from fun ad e_ => by subst e_; exact Kd.own_blk (fun h_ => absurd (Kd.R_lt HO165.out gb9 h_.symm) (by rw [hg]; exact Nat.lt_irrefl _))); replace HO165 := zy_ HO165 hb; replace HB := Aside0.mk (below_step (zw0_ HB) hb); clear hb hbox hg))
 go_ret
 exact ⟨gb9, Ao8, co8, rfl, GE9.out, ⟨by rw [← E1.out]; exact zb_ BK9, by rw [← E1.out]; exact zk_ ((Kd.R_reads' HO165.out).2.2), by rw [← E1.out]; exact (Kd.R_reads' HO165.out).2.1, HN9.out⟩, zw0_ HB⟩

/-! ### pack_Reader_Bytes: function 66 -/
/-- All but one block stay. -/
def KB_ (w w' : World) (g : Nat) : Prop := (w'.os = w.os ∧ w'.tape = w.tape ∧ w'.output = w.output) ∧ KeepBut w w' g none
theorem kb_then_ {w w1 w2 : World} {g : Nat} (h : KB_ w w1 g) (hb : Below w1.heap.size w1 w2) : KB_ w w2 g := ⟨⟨hb.os.trans h.1.1, hb.tape.trans h.1.2.1, hb.output.trans h.1.2.2⟩, h.2.trans (KeepBut.of_below hb g none) (.inl rfl)⟩
theorem kb_below_ {w w1 w2 : World} {g : Nat} (hb : Below w.heap.size w w1) (h : KB_ w1 w2 g) (hg : w.heap.size ≤ g) : Below w.heap.size w w2 := ⟨h.1.1.trans hb.os, h.1.2.1.trans hb.tape, h.1.2.2.trans hb.output, Nat.le_trans hb.size h.2.1, fun k hk => (h.2.2 k (Nat.lt_of_lt_of_le hk hb.size) (by omega) (by simp)).trans (hb.block k hk)⟩
theorem prs_ne_ {A : Option Addr} {g m n c : Nat} (h : ∀ ad, A = some ad → ad.block ≠ g) : ∀ ad, (if c = m then A else A.map (fun x => x.add n)) = some ad → ad.block ≠ g := by
 intro ad e
 split at e
 ·exact h ad e
 cases A with
 | none => cases e
 | some a =>
  cases e
  show (Addr.add _ _).block ≠ g
  rw [add_block]
  exact h a rfl
theorem prs_fin_ {w w7 : World} {g n : Nat} {A A2 : Option Addr} {c c2 : Nat} {xs y : List Int} {v : Value} (hb : w.heap[g]? = some (.cells #[.slice A xs.length c, .bool false] 81 (0, 0))) (hB : Below w.heap.size w w7) (hR : Kd.R (Kd.int .u8) 5 w7 w.heap.size (fun _ => True) v y) (hy : y = xs.take n) (hC : Kd.C (Kd.int .u8) w A2 (xs.drop n).length (xs.drop n)) (hne : ∀ ad, A2 = some ad → ad.block ≠ g) (hc : (xs.drop n).length ≤ c2) :
  Kd.R (Kd.int .u8) 5 (w7.setCell ⟨g, 0, none⟩ (.slice A2 (xs.length - n) c2)) w.heap.size (fun k => k ≠ g) v (xs.take n) ∧ (∃ (A' : Option Addr) (c' : Nat), PRS_ (w7.setCell ⟨g, 0, none⟩ (.slice A2 (xs.length - n) c2)) g A' c' (xs.drop n)) ∧ KB_ w (w7.setCell ⟨g, 0, none⟩ (.slice A2 (xs.length - n) c2)) g := by
 have hk : KeepBut w (w7.setCell ⟨g, 0, none⟩ (.slice A2 (xs.length - n) c2)) g none := KeepBut.set_ (KeepBut.of_below hB g none) 0 _
 have hl : (xs.drop n).length = xs.length - n := List.length_drop
 subst hy
 refine ⟨Kd.R_far (p := ⟨g, 0, none⟩) (Kd.R_mono (Kd.R_bound hR) (fun k hk_ => Nat.ne_of_gt (Nat.lt_of_lt_of_le (blk_lt hb) hk_.2.1))) (fun _ h_ => h_) _, ⟨A2, c2, ?_, ?_, hc, hne⟩, ⟨hB.os, hB.tape, hB.output⟩, hk⟩
 ·rw [hl]
  exact blk_put (cs := #[.slice A xs.length c, .bool false]) (blk_below hb hB) 0 _ rfl
 ·exact Kd.C_keep (enc := Value.int .u8) (h1 := fun _ => rfl) (0 : Int) hC hk (fun ad e _ => hne ad e)
set_option maxHeartbeats 8000000 in
set_option maxRecDepth 100000 in
theorem pack_Reader_Bytes.calls (g : Nat) (A : Option Addr) (c : Nat) (xs : List Int) (n : Int) (w : World) (hs : PRS_ w g A c xs) (h0 : 0 ≤ n) (h1 : n ≤ (xs.length : Int)) (hl : xs.length < 140737488355328) :
  Calls Try.prog 66 #[.pointer (some ⟨g, 0, none⟩), .int .i64 n] w fun e w' => ∃ v0_ : Value, e = .returned (v0_) ∧ Kd.R (Kd.int .u8) 5 w' w.heap.size (fun k => k ≠ g) v0_ (xs.take n.toNat) ∧ ∃ (A' : Option Addr) (c' : Nat), PRS_ w' g A' c' (xs.drop n.toNat) ∧ KB_ w w' g := by
 obtain ⟨hb0, hr0, hc0, hne⟩ := hs
 have BK0 := Aside0.mk hb0
 have HR0 := Aside0.mk hr0
 have HC0 := Aside0.mk hc0
 have HN0 := Aside0.mk hne
 have H0 := Aside0.mk h0
 have H1 := Aside0.mk h1
 have HB := Aside0.mk (Below.refl w.heap.size w)
 have hcz0_0 : w.cell? ⟨g, 0, none⟩ = some (.slice A xs.length c) := (blk_cell hb0 0).trans rfl
 have hcz0_1 : w.cell? ⟨g, 1, none⟩ = some (.bool false) := (blk_cell hb0 1).trans rfl
 have hfz0_0 := blk_frozen hb0 0
 have hfz0_1 := blk_frozen hb0 1
 have CD0 := Aside0.mk (Kd.C_drop (m := n.toNat) hr0 (by omega) hc0)
 have ND0 := Aside0.mk (prs_ne_ (m := n.toNat) (n := n.toNat) (c := c) hne)
 have c1b : decide (n < 0) = false := decide_eq_false (by omega)
 have c2b : decide ((xs.length : Int) < n) = false := decide_eq_false (by omega)
 obtain ⟨i0, hi0, _, hsz0, _⟩ := info_parts info5
 obtain ⟨hcutt, hA0, hC0⟩ := print_take_of (P := Try.prog) (Value.int .u8) (0 : Int) 47 5 .i64 Try.underlying47 hi0 hsz0 A c xs n h0 h1 hc0
 have HR1 := Aside0.mk (Kd.C_of_reads (h1 := fun _ => rfl) (hA0 _ (Kd.reads_of_C hr0)))
 have hcutd := cut_from (P := Try.prog) 47 5 .i64 Try.underlying47 hi0 1 hsz0 A xs.length c n h0 (by omega)
 obtain ⟨y160, hy160⟩ : ∃ y_ : List Int, y_ = (([] : List Int)) := ⟨_, rfl⟩
 have Ny160 := Aside0.mk hy160
 have hlt : (xs.take n.toNat).length ≤ xs.length := by rw [List.length_take]; omega
 have LMc4 : Aside0 (y160.length + (xs.take n.toNat).length < 140737488355328) := ⟨by rw [hy160]; simp only [List.length_nil]; omega⟩
 obtain ⟨y163, hy163⟩ : ∃ y_ : List Int, y_ = (y160 ++ xs.take n.toNat) := ⟨_, rfl⟩
 have E1 : Aside0 (y163 = xs.take n.toNat) := ⟨by rw [hy163, hy160]; rfl⟩
 have Ny163 := Aside0.mk hy163
 have LT0 : Aside0 (n.toNat = (xs.take n.toNat).length) := ⟨by rw [List.length_take]; omega⟩
 clear hy160 hy163 hr0 hb0 hne hlt hcutt hA0
 go_enter Try.func66, Try.ntmps66
 go_wp2_with (first | ((with_reducible refine gate_dst (N := 29) rfl ?_); refine Kd.R_lit (Kd.int .u8) _ 5 ?hg (N := 29) ?hd (xs := ([] : List Int)) (inner := []) (ok := fun _ => True) (okp := fun _ => True) ?hr ?hp (fun _ hk => hk) trivial (Below.refl _ _) (Nat.le_refl _) (by simp) ?_; (case hd => rfl); (case hg => rfl); (case hr => first | (go_simp; done) | (go_simp; rfl)); (case hp => exact (Reps.none _ _)); intro v161 w5 ho6 hb hg_ hnew_; clear hg_ hnew_; (first | rw [← Ny160.out] at ho6 | (simp only [Int.reduceToNat] at ho6; rw [← Ny160.out] at ho6)); have HO162 := Aside0.mk (Kd.R_lower ho6 (below_size (zw0_ HB))); have BK1 := za_ BK0 hb; replace HB := Aside0.mk (below_step (zw0_ HB) hb); have hcz1_0 := zx_ (v := .slice A xs.length c) BK1 0; clear hb ho6) | ((with_reducible refine gate_builtin (b := .append) (xs := #[.tmp 29, .tmp 35]) rfl ?_); at_builtin; refine Kd.R_append_rows (Kd.int .u8) (w0 := w) w.heap.size rfl (.tmp 29) (.tmp 35) 47 5 (.int .u8 0) 1 rfl Try.underlying47 info5 rfl (by decide) (by omega) v161 y160 (xs.take n.toNat) _ _ _ (fun _ => True) (fun _ => False) rfl (congrArg (fun z => Value.slice _ z _) LT0.out) ?aO ?aR (fun _ _ h => h) (fun _ h => h.elim) ?aF ?aB ?aS ?aL ?_; (case aR => exact zk_ (Kd.C_below HR1.out HB.out)); (case aB => exact (zw0_ HB)); (case aF => exact (fun _ _ => trivial)); (case aO => exact (zr_ HO162.out)); (case aS => exact (below_size (zw0_ HB))); (case aL => have := LMc4.out; omega); intro v164 w7 ho hb hg hat; rw [← Ny163.out] at ho; replace HB := Aside0.mk (hb); have BK7 := Aside0.mk (blk_below BK0.out hb); have HO165 := Aside0.mk (ho); clear HO162; clear ho hb hg hat; have hcz7_0 := zx_ (v := .slice A xs.length c) BK7 0; have hfz7_0 := blk_frozen BK7.out 0))
 ·go_ret
  refine ⟨v164, rfl, ?_⟩
  exact prs_fin_ BK0.out HB.out HO165.out E1.out (by have := CD0.out; rw [if_pos (c := c = n.toNat) (by first | assumption | rfl)] at this; exact this) HN0.out (by rw [List.length_drop]; have := HC0.out; omega)
 go_ret
 refine ⟨v164, rfl, ?_⟩
 exact prs_fin_ BK0.out HB.out HO165.out E1.out (by have := CD0.out; rw [if_neg (c := c = n.toNat) (by assumption), show (Kd.int IntKind.u8).sz = 1 from rfl] at this; simp only [Nat.mul_one] at this; exact this) (by have := ND0.out; rw [if_neg (c := c = n.toNat) (by assumption)] at this; exact this) (by rw [List.length_drop]; have := HC0.out; omega)

/-! ### pack_Reader_number: function 59 -/
theorem prs_below_ {w w' : World} {g c : Nat} {A : Option Addr} {xs : List Int} (h : PRS_ w g A c xs) (hb : Below w.heap.size w w') : PRS_ w' g A c xs := ⟨blk_below h.1 hb, Kd.C_below h.2.1 hb, h.2.2⟩
/-- Bytes, the greatest first, as a number. -/
def nv_ : Int → List Int → Int
 | v, [] => v
 | v, x :: l => nv_ (Go.bits .or .u64 (IntKind.u64.wrap (v * 256)) (IntKind.u64.wrap x)) l
set_option maxHeartbeats 8000000 in
set_option maxRecDepth 100000 in
theorem pack_Reader_number.calls (g : Nat) (A : Option Addr) (c : Nat) (xs : List Int) (w : World) (hs : PRS_ w g A c xs) (h8 : 8 ≤ xs.length) (hl : xs.length < 140737488355328) :
  Calls Try.prog 59 #[.pointer (some ⟨g, 0, none⟩), .int .i64 8] w fun e w' => e = .returned (.int .u64 (nv_ 0 (xs.take 8))) ∧ (∃ (A' : Option Addr) (c' : Nat), PRS_ w' g A' c' (xs.drop 8)) ∧ KB_ w w' g := by
 have HS := Aside0.mk hs
 have H8 := Aside0.mk h8
 have HL := Aside0.mk hl
 have HB := Aside0.mk (Below.refl w.heap.size w)
 obtain ⟨ys, hys⟩ : ∃ ys, ys = xs.take 8 := ⟨_, rfl⟩
 have hyl : ys.length = 8 := by rw [hys, List.length_take]; omega
 have HY := Aside0.mk hys
 have HYL := Aside0.mk hyl
 rw [← hys]
 clear hs h8 hl hys hyl
 go_enter Try.func59, Try.ntmps59
 go_wp2_with (first | (go_at_call 66; refine (pack_Reader_Bytes.calls g A c xs 8 _ ?s1 (by decide) (by have := H8.out; omega) HL.out).mono ?_; (case s1 => exact prs_below_ HS.out (zw0_ HB)); rintro e w7 ⟨v164, rfl, ho, A', c', hs', hk⟩; have HO := Aside0.mk (show Kd.R (Kd.int .u8) 5 w7 w.heap.size (fun k => k ≠ g) v164 ys from by rw [HY.out]; exact ho); have HS7 := Aside0.mk (show PRS_ w7 g A' c' (xs.drop 8) from hs'); have HK := Aside0.mk (show KB_ w w7 g from hk); clear ho hs' hk; obtain ⟨Ao8, co8, eo8⟩ := Kd.R_slice HO.out; subst eo8))
 have HB7 := Aside0.mk (Below.refl w7.heap.size w7)
 go_loopg [5, 12] 8 (fun kq v5 v12 w' => ∃ (i a : Int), v5 = .int .u64 a ∧ v12 = .int .i64 i ∧ Aside0 (0 ≤ i ∧ i ≤ 8) ∧ Aside0 (kq = (8 - i).toNat) ∧ Aside0 (nv_ a (ys.drop i.toNat) = nv_ 0 ys) ∧ Aside0 (Below w7.heap.size w7 w'))
 case atStart => exact ⟨0, 0, rfl, rfl, ⟨by omega⟩, ⟨rfl⟩, ⟨rfl⟩, ⟨zw0_ HB7⟩⟩
 case round =>
  obtain ⟨i, a, rfl, rfl, HI, HQ, HV, HW⟩ := hrel
  by_cases c1 : i < 8
  case neg =>
   have c1b : decide (i < (ys.length : Int)) = false := decide_eq_false (by have := HYL.out; omega)
   have i8 : i = 8 := by have := HI.out; omega
   subst i8
   clear c1
   have E8 : Aside0 (a = nv_ 0 ys) := ⟨by
    have := HV.out
    rw [List.drop_eq_nil_of_le (by have := HYL.out; omega)] at this
    exact this⟩
   go_wp2
   go_ret
   exact ⟨by rw [E8.out]; rfl, ⟨A', c', prs_below_ HS7.out (zw0_ HW)⟩, kb_then_ HK.out (zw0_ HW)⟩
  case pos =>
   have c1b : decide (i < (ys.length : Int)) = true := decide_eq_true (by have := HYL.out; omega)
   have p1 : 0 ≤ i := HI.out.1
   have q1 : i < (ys.length : Int) := by have := HYL.out; omega
   obtain ⟨ad1, e1, hx1⟩ := Kd.at_int (Kd.R_reads' HO.out).2.2 i p1 q1
   cases e1
   replace hx1 := (HW.out.cell (World.block_lt_of_cell? w7 _ hx1)).trans hx1
   have p1e := eq_true p1
   have q1e := eq_true q1
   clear c1
   have C8 : Aside0 (i < 8) := ⟨by have := HYL.out; omega⟩
   have W1 : Aside0 (wrap64 (i + 1) = i + 1) := ⟨by have := HI.out; unfold wrap64; omega⟩
   have D1 : Aside0 (ys.drop i.toNat = rd ys i :: ys.drop (i + 1).toNat) := ⟨by
    have hlt : i.toNat < ys.length := by omega
    rw [List.drop_eq_getElem_cons hlt, show (i + 1).toNat = i.toNat + 1 by omega]
    unfold rd
    rw [List.getD_eq_getElem?_getD, List.getElem?_eq_getElem hlt]
    rfl⟩
   go_wp2
   go_roundg ((8 - (i + 1)).toNat)
   case measure => have := HQ.out; have := HI.out; have := C8.out; omega
   case rel => exact ⟨wrap64 (i + 1), _, rfl, rfl, ⟨by rw [W1.out]; have := HI.out; have := C8.out; omega⟩, ⟨by rw [W1.out]⟩, ⟨by rw [W1.out]; have := HV.out; rw [D1.out] at this; exact this⟩, ⟨zw0_ HW⟩⟩

/-! ### pack_Reader_U64: function 47 -/
set_option maxHeartbeats 8000000 in
set_option maxRecDepth 100000 in
theorem pack_Reader_U64.calls (g : Nat) (A : Option Addr) (c : Nat) (xs : List Int) (w : World) (hs : PRS_ w g A c xs) (h8 : 8 ≤ xs.length) (hl : xs.length < 140737488355328) :
  Calls Try.prog 47 #[.pointer (some ⟨g, 0, none⟩)] w fun e w' => e = .returned (.int .u64 (nv_ 0 (xs.take 8))) ∧ (∃ (A' : Option Addr) (c' : Nat), PRS_ w' g A' c' (xs.drop 8)) ∧ KB_ w w' g := by
 have HS := Aside0.mk hs
 have H8 := Aside0.mk h8
 have HL := Aside0.mk hl
 have HB := Aside0.mk (Below.refl w.heap.size w)
 clear hs h8 hl
 go_enter Try.func47, Try.ntmps47
 go_wp2_with (first | (go_at_call 59; refine (pack_Reader_number.calls g A c xs _ ?s1 H8.out HL.out).mono ?_; (case s1 => exact prs_below_ HS.out (zw0_ HB)); rintro e w7 ⟨rfl, ⟨A', c', hs'⟩, hk⟩; have HS7 := Aside0.mk hs'; have HK := Aside0.mk hk; clear hs' hk))
 have HB7 := Aside0.mk (Below.refl w7.heap.size w7)
 go_ret
 exact ⟨rfl, ⟨A', c', prs_below_ HS7.out (zw0_ HB7)⟩, kb_then_ HK.out (zw0_ HB7)⟩

/-! ### wide_Get: function 25 -/
def wide_Get.f (l0 : List Int) : Option (Int × Int × Int) := if l0.length < 140737488355328 then (if l0.length = 16 then some (wrap64 (nv_ 0 (l0.take 8)), nv_ 0 ((l0.drop 8).take 8), 0) else some (0, 0, 3)) else none
set_option maxHeartbeats 8000000 in
set_option maxRecDepth 100000 in
theorem wide_Get.calls (A0 : Option Addr) (c0 : Nat) (l0 : List Int) (r1 : Int) (r2 : Int) (r3 : Int) (w : World) (hr0 : Kd.C (Kd.int .u8) w A0 l0.length l0) (hc0 : l0.length ≤ c0) (h : wide_Get.f l0 = some (r1, r2, r3)) :
  Calls Try.prog 25 #[.slice A0 l0.length c0] w fun e w' => e = .returned (.tuple #[.agg #[.int .i64 r1, .int .u64 r2], .int .i64 r3]) ∧ Below w.heap.size w w' := by
 have hu25 := Try.underlying25
 have HR0 := Aside0.mk hr0
 have HC0 := Aside0.mk hc0
 clear hr0 hc0
 have HB := Aside0.mk (Below.refl w.heap.size w)
 unfold wide_Get.f at h
 by_cases hl : l0.length < 140737488355328
 rotate_left
 ·rw [if_neg hl] at h
  cases h
 rw [if_pos hl] at h
 have HL := Aside0.mk hl
 clear hl
 by_cases c1 : l0.length = 16
 rotate_left
 ·rw [if_neg c1] at h
  simp only [Option.some.injEq, Prod.mk.injEq] at h
  obtain ⟨rfl, rfl, rfl⟩ := h
  have c1b : ((l0.length : Int) != 16) = true := by simp; omega
  clear c1
  go_enter Try.func25, Try.ntmps25
  go_wp2_with (first | ((with_reducible refine gate_dst (N := 2) rfl ?_); refine box_event ?hg (N := 2) ?hd (cs := #[.int .i64 0, .int .u64 0]) (t := 25) ?hr ?_; (case hd => rfl); (case hg => rfl); (case hr => first | (go_simp; done) | (go_simp; rfl)); intro gb2 hg w6 hbox hb; have BK2 := Aside0.mk hbox; have GE2 := Aside0.mk (zs_ hg (zw0_ HB)); replace HB := Aside0.mk (below_step (zw0_ HB) hb); have hcz2_0 := zx_ (v := .int .i64 0) BK2 0; have hcz2_1 := zx_ (v := .int .u64 0) BK2 1; have hfz2_0 := blk_frozen BK2.out 0; have hfz2_1 := blk_frozen BK2.out 1; clear hb hbox hg))
  refine bodyPost_ret (results_ct rfl _ _ gb2 25 #[.int .i64 0, .int .u64 0] (0, 0) _ rfl (zo2_ BK2) Try.underlying25 rfl (by kernel_rfl)) rfl ?_
  exact ⟨by first | rfl | trivial, zw1_ HB GE2⟩
 rw [if_pos c1] at h
 simp only [Option.some.injEq, Prod.mk.injEq] at h
 obtain ⟨rfl, rfl, rfl⟩ := h
 have c1b : ((l0.length : Int) != 16) = false := by simp; omega
 have L16 := Aside0.mk c1
 clear c1
 go_enter Try.func25, Try.ntmps25
 go_wp2_with (first | ((with_reducible refine gate_dst (N := 2) rfl ?_); refine box_event ?hg (N := 2) ?hd (cs := #[.int .i64 0, .int .u64 0]) (t := 25) ?hr ?_; (case hd => rfl); (case hg => rfl); (case hr => first | (go_simp; done) | (go_simp; rfl)); intro gb2 hg w6 hbox hb; have BK2 := Aside0.mk hbox; have GE2 := Aside0.mk (zs_ hg (zw0_ HB)); replace HB := Aside0.mk (below_step (zw0_ HB) hb); clear hb hbox hg) | (go_at_call 46; refine (pack_Read.calls A0 c0 l0 _ ?s1 HC0.out HL.out).mono ?_; (case s1 => exact Kd.C_below HR0.out (zw0_ HB)); rintro e w7 ⟨g4, A4, c4, rfl, hge, hs4, hb⟩; have HS4 := Aside0.mk hs4; have HB7 := Aside0.mk (Below.refl w7.heap.size w7); have GE4 := Aside0.mk (Nat.le_trans (below_size (zw0_ HB)) hge); have NE4 := Aside0.mk (show gb2 ≠ g4 from Nat.ne_of_lt (Nat.lt_of_lt_of_le (blk_lt (zb_ BK2)) hge)); replace BK2 := za_ BK2 hb; replace HB := Aside0.mk (below_step (zw0_ HB) hb); clear hs4 hge hb) | (go_at_call 47; refine (pack_Reader_U64.calls g4 A4 c4 l0 _ ?s1 (by have := L16.out; omega) HL.out).mono ?_; (case s1 => exact prs_below_ HS4.out (zw0_ HB7)); rintro e w8 ⟨rfl, ⟨A5, c5, hs5⟩, hk⟩; have HS5 := Aside0.mk hs5; have HB8 := Aside0.mk (Below.refl w8.heap.size w8); replace BK2 := Aside0.mk (KeepBut.blk hk.2 (zb_ BK2) NE4.out (by simp)); replace HB := Aside0.mk (kb_below_ (zw0_ HB) hk GE4.out); clear HS4 hs5 hk HB7) | (go_at_call 47; refine (pack_Reader_U64.calls g4 A5 c5 (l0.drop 8) _ ?s1 (by rw [List.length_drop]; have := L16.out; omega) (by rw [List.length_drop]; have := HL.out; omega)).mono ?_; (case s1 => exact prs_below_ HS5.out (zw0_ HB8)); rintro e w9 ⟨rfl, ⟨A6, c6, hs6⟩, hk⟩; replace BK2 := Aside0.mk (KeepBut.blk hk.2 (zb_ BK2) NE4.out (by simp)); replace HB := Aside0.mk (kb_below_ (zw0_ HB) hk GE4.out); clear HS5 hs6 hk HB8; have hcz9_0 := zx_ (v := .int .i64 0) BK2 0; have hcz9_1 := zx_ (v := .int .u64 0) BK2 1; have hfz9_0 := blk_frozen BK2.out 0; have hfz9_1 := blk_frozen BK2.out 1))
 refine bodyPost_ret (results_ct rfl _ _ gb2 25 #[.int .i64 (wrap64 (nv_ 0 (l0.take 8))), .int .u64 (nv_ 0 ((l0.drop 8).take 8))] (0, 0) _ rfl (zo2_ BK2) Try.underlying25 rfl (by kernel_rfl)) rfl ?_
 exact ⟨by first | rfl | trivial, zw1_ HB GE2⟩

/-! ### pack_put: function 60 -/
def pack_put.l0 : Nat → Int → List Int → Int → Option (List Int)
  | 0, _, _, _ => none
  | k + 1, x1, x7, x8 => if x8 ≥ 0 then (if 0 ≤ (wrap64 (8 * x8)) then (if x7.length < 140737488355328 then (pack_put.l0 k x1 (x7 ++ [(shr .u64 x1 (wrap64 (8 * x8))) % 256]) (wrap64 (x8 - 1))) else (none)) else (none)) else (some x7)
def pack_put.f (k : Nat) (l0 : List Int) (a1 : Int) (a2 : Int) : Option (List Int) := (some (([] : List Int) : List Int)).bind fun y152 => (if y152.length + l0.length < 140737488355328 then (pack_put.l0 k a1 (y152 ++ l0) (wrap64 (a2 - 1))) else (none))
theorem pack_put.mono_l : ∀ k, (∀ y0 y1 y2, LeO (pack_put.l0 k y0 y1 y2) (pack_put.l0 (k + 1) y0 y1 y2))
  | 0 => fun _ _ _ r h => by simp [pack_put.l0] at h
  | k + 1 => by
    have ih0 := pack_put.mono_l k
    · intro y0 y1 y2
      unfold pack_put.l0
      repeat' first
      | (with_reducible exact ih0 _ _ _)
      | (with_reducible exact LeO.refl _)
      | (with_reducible exact LeO.none _)
      | (with_reducible refine LeO.ite ?_ ?_)
      | (with_reducible refine LeO.bind ?_ (fun _ => ?_))
      | exact ih0 _ _ _
      | exact LeO.none _
      | refine LeO.ite ?_ ?_
      | refine LeO.bind ?_ (fun _ => ?_)
theorem pack_put.mono : ∀ a0 a1 a2 k, LeO (pack_put.f k a0 a1 a2) (pack_put.f (k + 1) a0 a1 a2) := by
  intro a0 a1 a2 k
  have ih0 := pack_put.mono_l k
  unfold pack_put.f
  repeat' first
      | (with_reducible exact ih0 _ _ _)
      | (with_reducible exact LeO.refl _)
      | (with_reducible exact LeO.none _)
      | (with_reducible refine LeO.ite ?_ ?_)
      | (with_reducible refine LeO.bind ?_ (fun _ => ?_))
      | exact ih0 _ _ _
      | exact LeO.none _
      | refine LeO.ite ?_ ?_
      | refine LeO.bind ?_ (fun _ => ?_)
set_option maxHeartbeats 8000000 in
set_option maxRecDepth 100000 in
theorem pack_put.calls (k : Nat) (A0 : Option Addr) (c0 : Nat) (l0 : List Int) (a1 : Int) (a2 : Int) (r : List Int) (w : World) (hr0 : Kd.C (Kd.int .u8) w A0 l0.length l0) (hc0 : l0.length ≤ c0) (h : pack_put.f k l0 a1 a2 = some r) :
    Calls Try.prog 60 #[.slice A0 l0.length c0, .int .u64 a1, .int .i64 a2] w fun e w' => ∃ v0_ : Value, e = .returned (v0_) ∧ Kd.R (Kd.int .u8) 5 w' w.heap.size (fun _ => True) v0_ r ∧ Below w.heap.size w w' := by
  have HR0 := Aside0.mk hr0
  have HC0 := Aside0.mk hc0
  clear hr0 hc0
  have HB := Aside0.mk (Below.refl w.heap.size w)
  have H : ((some (([] : List Int) : List Int)).bind fun y152 => (if y152.length + l0.length < 140737488355328 then (pack_put.l0 k a1 (y152 ++ l0) (wrap64 (a2 - 1))) else (none))) = some r := h
  clear h
  obtain ⟨y152, hy152⟩ : ∃ y_ : List Int, y_ = (([] : List Int)) := ⟨_, rfl⟩
  replace H : (if y152.length + l0.length < 140737488355328 then (pack_put.l0 k a1 (y152 ++ l0) (wrap64 (a2 - 1))) else (none)) = some r := by first | (rw [hy152]; with_reducible exact H) | (have H2_ := (Option.bind_some _ _).symm.trans H; rw [hy152]; with_reducible exact H2_) | (have H2_ := (Option.bind_some _ _).symm.trans H; with_reducible exact H2_) | with_reducible exact H | (rw [hy152]; exact H) | exact H
  have Ny152 := Aside0.mk hy152
  clear hy152
  by_cases c4 : y152.length + l0.length < 140737488355328
  · rw [if_pos c4] at H
    have LMc4 := Aside0.mk c4
    clear c4
    obtain ⟨y155, hy155⟩ : ∃ y_ : List Int, y_ = (y152 ++ l0) := ⟨_, rfl⟩
    replace H : (pack_put.l0 k a1 y155 (wrap64 (a2 - 1))) = some r := by first | (rw [hy155]; with_reducible exact H) | (have H2_ := (Option.bind_some _ _).symm.trans H; rw [hy155]; with_reducible exact H2_) | (have H2_ := (Option.bind_some _ _).symm.trans H; with_reducible exact H2_) | with_reducible exact H | (rw [hy155]; exact H) | exact H
    have Ny155 := Aside0.mk hy155
    clear hy155
    have H' := Aside0.mk H
    clear H
    go_enter Try.func60, Try.ntmps60
    go_wp2_with (first | ((with_reducible refine gate_dst (N := 9) rfl ?_); refine Kd.R_lit (Kd.int .u8) _ 5 ?hg (N := 9) ?hd (xs := ([] : List Int)) (inner := []) (ok := fun _ => True) (okp := fun _ => True) ?hr ?hp (fun _ hk => hk) trivial (Below.refl _ _) (Nat.le_refl _) (by simp) ?_; (case hd => rfl); (case hg => rfl); (case hr => first | (go_simp; done) | (go_simp; rfl)); (case hp => exact (Reps.none _ _)); intro v153 w5 ho6 hb hg_ hnew_; clear hg_ hnew_; (first | rw [← Ny152.out] at ho6 | (simp only [Int.reduceToNat] at ho6; rw [← Ny152.out] at ho6)); have HO154 := Aside0.mk (Kd.R_lower ho6 (below_size (zw0_ HB))); replace HB := Aside0.mk (below_step (zw0_ HB) hb); clear hb ho6) | ((with_reducible refine gate_builtin (b := .append) (xs := #[.tmp 9, .tmp 10]) rfl ?_); at_builtin; refine Kd.R_append_rows (Kd.int .u8) (w0 := w) w.heap.size rfl (.tmp 9) (.tmp 10) 47 5 (.int .u8 0) 1 rfl Try.underlying47 info5 rfl (by decide) (by omega) v153 y152 l0 _ _ _ (fun _ => True) (fun _ => False) rfl rfl ?aO ?aR (fun _ _ h => h) (fun _ h => h.elim) ?aF ?aB ?aS ?aL ?_; (case aR => exact zk_ (Kd.C_below HR0.out HB.out)); (case aB => exact (zw0_ HB)); (case aF => exact (fun _ _ => trivial)); (case aO => exact (zr_ HO154.out)); (case aS => exact (below_size (zw0_ HB))); (case aL => have := LMc4.out; omega); intro v156 w7 ho hb hg hat; rw [← Ny155.out] at ho; replace HB := Aside0.mk (hb); have HO157 := Aside0.mk (ho); clear HO154; clear ho hb hg hat))
    go_loopg [7, 8] k (fun kq v7 v8 w' => ∃ (x7_1 : List Int) (x8_1 : Int), v8 = .int .i64 x8_1 ∧ Aside0 (pack_put.l0 kq a1 x7_1 x8_1 = some r) ∧ Aside0 (kq ≤ k) ∧ Aside0 (Kd.R (Kd.int .u8) 5 w' w.heap.size (fun _ => True) v7 x7_1) ∧ Aside0 (Below w.heap.size w w'))
    case atStart => exact ⟨(y155), (wrap64 (a2 - 1)), z1_, H', ⟨Nat.le_refl _⟩, ⟨zr_ HO157.out⟩, ⟨zw0_ HB⟩⟩
    case round =>
      clear H'
      try clear p2
      try clear c4
      try clear c6
      try clear p6
      obtain ⟨x7_1, x8_1, rfl, HA, HK1, HO_7, HB⟩ := hrel
      cases gk with
      | zero => exact absurd HA.out (by simp [pack_put.l0])
      | succ k1 =>
        have H := HA.out
        clear HA
        simp only [pack_put.l0] at H
        by_cases c8 : x8_1 ≥ 0
        · rw [if_pos c8] at H
          have c8b0 : decide (0 ≤ x8_1) = true := decide_eq_true c8
          clear c8
          obtain ⟨ji9, hji9⟩ : ∃ j_ : Int, (wrap64 (8 * x8_1)) = j_ := ⟨_, rfl⟩
          replace H : (if 0 ≤ (ji9) then (if x7_1.length < 140737488355328 then (pack_put.l0 k1 a1 (x7_1 ++ [(shr .u64 a1 (ji9)) % 256]) (wrap64 (x8_1 - 1))) else (none)) else (none)) = some r := by first | (rw [hji9] at H; exact H) | (simp only [hji9] at H ⊢; exact H)
          have hji9w : (IntKind.i64.wrap (8 * x8_1)) = ji9 := (i64_w _).trans hji9
          by_cases c10 : 0 ≤ (ji9)
          · rw [if_pos c10] at H
            have c10b0 := eq_true c10
            have c10b1 : decide (0 ≤ (ji9)) = true := decide_eq_true c10
            clear c10
            obtain ⟨ji11, hji11⟩ : ∃ j_ : Int, (shr .u64 a1 (ji9)) = j_ := ⟨_, rfl⟩
            replace H : (if x7_1.length < 140737488355328 then (pack_put.l0 k1 a1 (x7_1 ++ [(ji11) % 256]) (wrap64 (x8_1 - 1))) else (none)) = some r := by first | (rw [hji11] at H; exact H) | (simp only [hji11] at H ⊢; exact H)
            have hji11_ : (a1 / 2 ^ min (ji9).toNat 64) = ji11 := hji11
            have hji11z : (ji9) ≤ 64 → (a1 / 2 ^ (ji9).toNat) = ji11 := shr_small hji11
            by_cases c12 : x7_1.length < 140737488355328
            · rw [if_pos c12] at H
              have LMc12 := Aside0.mk c12
              clear c12
              obtain ⟨y158, hy158⟩ : ∃ y_ : List Int, y_ = (x7_1 ++ [(ji11) % 256]) := ⟨_, rfl⟩
              replace H : (pack_put.l0 k1 a1 y158 (wrap64 (x8_1 - 1))) = some r := by first | (rw [hy158]; with_reducible exact H) | (have H2_ := (Option.bind_some _ _).symm.trans H; rw [hy158]; with_reducible exact H2_) | (have H2_ := (Option.bind_some _ _).symm.trans H; with_reducible exact H2_) | with_reducible exact H | (rw [hy158]; exact H) | exact H
              have Ny158 := Aside0.mk hy158
              clear hy158
              have H' := Aside0.mk H
              clear H
              go_wp2_with (first | ((with_reducible refine gate_builtin (b := .append) (xs := #[.tmp 18, .tmp 24]) rfl ?_); at_builtin; refine Kd.R_append (Kd.int .u8) (w0 := w) w.heap.size rfl (.tmp 18) (.tmp 24) 47 5 (.int .u8 0) 1 rfl Try.underlying47 info5 rfl (by decide) (by omega) u7 x7_1 ((ji11) % 256) [.int .u8 ((ji11) % 256)] (fun _ => True) (fun _ => False) rfl rfl ?aP (fun _ hk => hk.elim) ?aF ?aO ?aB ?aS ?aL ?_; (case aP => exact rfl); (case aB => exact (zw0_ HB)); (case aF => exact (fun _ _ => trivial)); (case aO => exact (zr_ HO_7.out)); (case aS => exact (below_size (zw0_ HB))); (case aL => have := LMc12.out; omega); intro v159 w13 ho hb hg hat; rw [← Ny158.out] at ho; replace HB := Aside0.mk (hb); have HO160 := Aside0.mk (ho); clear HO_7; clear ho hb hg hat))
              go_roundg k1
              case measure => have := HK1.out; omega
              case rel => exact ⟨(y158), (wrap64 (x8_1 - 1)), z1_, H', ⟨by have := HK1.out; omega⟩, ⟨zr_ HO160.out⟩, ⟨zw0_ HB⟩⟩
            · rw [if_neg c12] at H
              exact absurd H (by simp)
          · rw [if_neg c10] at H
            exact absurd H (by simp)
        · rw [if_neg c8] at H
          have c8b0 : decide (0 ≤ x8_1) = false := decide_eq_false c8
          clear c8
          obtain rfl := Option.some.inj H
          go_wp2
          go_ret
          exact ⟨_, z0_, zr_ HO_7.out, zw0_ HB⟩
  · rw [if_neg c4] at H
    exact absurd H (by simp)

/-! ### pack_U64: function 48 -/
def pack_U64.f (k : Nat) (l0 : List Int) (a1 : Int) : Option (List Int) := (pack_put.f k l0 a1 8).bind fun t161 => (some t161)
theorem pack_U64.mono : ∀ a0 a1 k, LeO (pack_U64.f k a0 a1) (pack_U64.f (k + 1) a0 a1) := by
  intro a0 a1 k
  unfold pack_U64.f
  repeat' first
      | (with_reducible exact pack_put.mono _ _ _ _)
      | (with_reducible exact LeO.refl _)
      | (with_reducible exact LeO.none _)
      | (with_reducible refine LeO.ite ?_ ?_)
      | (with_reducible refine LeO.bind ?_ (fun _ => ?_))
      | exact pack_put.mono _ _ _ _
      | exact LeO.none _
      | refine LeO.ite ?_ ?_
      | refine LeO.bind ?_ (fun _ => ?_)
set_option maxHeartbeats 8000000 in
set_option maxRecDepth 100000 in
theorem pack_U64.calls (k : Nat) (A0 : Option Addr) (c0 : Nat) (l0 : List Int) (a1 : Int) (r : List Int) (w : World) (hr0 : Kd.C (Kd.int .u8) w A0 l0.length l0) (hc0 : l0.length ≤ c0) (h : pack_U64.f k l0 a1 = some r) :
    Calls Try.prog 48 #[.slice A0 l0.length c0, .int .u64 a1] w fun e w' => ∃ v0_ : Value, e = .returned (v0_) ∧ Kd.R (Kd.int .u8) 5 w' w.heap.size (fun _ => True) v0_ r ∧ Below w.heap.size w w' := by
  have HR0 := Aside0.mk hr0
  have HC0 := Aside0.mk hc0
  clear hr0 hc0
  have HB := Aside0.mk (Below.refl w.heap.size w)
  have H : ((pack_put.f k l0 a1 8).bind fun t161 => (some t161)) = some r := h
  clear h
  replace H := Option.bind_eq_some_iff.mp H
  obtain ⟨t161, A30, H⟩ := H
  replace H : (some t161) = some r := H
  have A3 := Aside0.mk A30
  clear A30
  obtain rfl := Option.some.inj H
  go_enter Try.func48, Try.ntmps48
  go_wp2_with (first | ((with_reducible refine gate_callee (f := 60) rfl ?_); refine zg_ (some 7) Try.func60 #[.slice A0 l0.length c0, .int .u64 a1, .int .i64 8] (h := ?_); (with_reducible refine (pack_put.calls k _ _ l0 a1 8 t161 _ ?side1 ?side2 A3.out).mono ?_); (case side1 => repeat (first | exact HR0.out | (with_reducible refine Kd.C_alloc ?_ _) | (with_reducible refine Kd.C_drewN ?_ _) | (with_reducible refine Kd.C_drew ?_))); (case side2 => exact HC0.out); rintro e w4 ⟨v162, rfl, ho0, hb⟩; refine ⟨_, rfl, ?_⟩; have HO163 := Aside0.mk (Kd.R_lower ho0 (below_size (zw0_ HB))); replace HB := Aside0.mk (below_step (zw0_ HB) hb); (try clear hb); (try clear ho0)))
  go_ret
  exact ⟨_, z0_, zr_ HO163.out, zw0_ HB⟩

end Go.Proofs.Ytalghnbolnimiaa.PWideBack
