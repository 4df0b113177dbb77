/- The functions that the law TensBack reaches, as Lean functions, and that each call of the Go function does what its Lean function says, wherever that one answers. Written by a program of mine over the print of the kit; Lean checks it. -/
import Derived.Test.YtbdhabpplidgfaaPTensBackx0
import Derived.Test.YtbdhabpplidgfaaPTensBackx2
import Derived.Test.YtbdhabpplidgfaaPTensBackx5
import Derived.Test.YtbdhabpplidgfaaPTensBackx6
import Derived.Test.YtbdhabpplidgfaaPTensBackx8
namespace Go.Proofs.Ytbdhabpplidgfaa.PTensBack
open Go.RowKit Go.Proofs.YtbdhabpplidgfaaW.PrintWords Go.Proofs.YtbdhabpplidgfaaW.PrintLast Go.Proofs.YtbdhabpplidgfaaW.PrintMore
attribute [local go_sem] max2_int min2_int max_two min_two max_three min_three max_four min_four   -- for this text's walks alone
set_option linter.unusedVariables false
set_option linter.unusedSimpArgs false

/-! ### carousellaw6_TensBack: function 7 -/
mutual
def carousellaw6_TensBack.j0 : Nat → List Int → List Int → Bool → List Int → List Int → Option (Bool)
 | 0, _, _, _, _, _ => none
 | k + 1, x1, x2, x30, x284000, x284001 => if x30 = true then (some true) else ((tens_Turn.f k x284000 x284001 x1).bind fun bt286 => (if bt286.2.2 = 0 then (if 0 ≤ (x1.length : Int) then (if ((x1.length : Int) : Int).toNat ≤ 35184372088832 then (carousellaw6_TensBack.l0 k x1 x2 (List.replicate ((x1.length : Int) : Int).toNat 0) 0 x284000 x284001 bt286.1 bt286.2.1) else (none)) else (none)) else (carousellaw6_TensBack.j2 k x2 x284000 x284001)))
def carousellaw6_TensBack.j2 : Nat → List Int → List Int → List Int → Option (Bool)
 | 0, _, _, _ => none
 | k + 1, x2, x284000, x284001 => (tens_Reshape.f k x284000 x284001 x2).bind fun bt308 => (if bt308.2.2 = 0 then ((tens_Reshape.f k bt308.1 bt308.2.1 x284000).bind fun bt316 => (if bt316.2.2 = 0 then ((tens_Same.f k bt316.1 bt316.2.1 x284000 x284001).bind fun t324 => (some t324)) else (none))) else (some true))
def carousellaw6_TensBack.l0 : Nat → List Int → List Int → List Int → Int → List Int → List Int → List Int → List Int → Option (Bool)
 | 0, _, _, _, _, _, _, _, _ => none
 | k + 1, x1, x2, x9, x10, x284000, x284001, x294000, x294001 => if x10 < (x1.length : Int) then (if 0 ≤ x10 then (if 0 ≤ (rd x1 x10) then (if (rd x1 x10) < (x9.length : Int) then (carousellaw6_TensBack.l0 k x1 x2 (x9.set ((rd x1 x10) : Int).toNat x10) (wrap64 (x10 + 1)) x284000 x284001 x294000 x294001) else (none)) else (none)) else (none)) else ((tens_Turn.f k x294000 x294001 x9).bind fun bt299 => (if bt299.2.2 = 0 then ((tens_Same.f k bt299.1 bt299.2.1 x284000 x284001).bind fun t307 => (if t307 = true then (carousellaw6_TensBack.j2 k x2 x284000 x284001) else (none))) else (none)))
end
def carousellaw6_TensBack.f (k : Nat) (l0_0 : List Int) (l0_1 : List Int) (l1 : List Int) (l2 : List Int) : Option (Bool) := (carousellaw6_awake.f k).bind fun t284 => (if t284 = true then ((carousellaw6_great.f l0_0 l0_1 300).bind fun t285 => (if t285 = true then (carousellaw6_TensBack.j0 k l1 l2 true l0_0 l0_1) else (if (l1.length : Int) > 4 then (carousellaw6_TensBack.j0 k l1 l2 true l0_0 l0_1) else (carousellaw6_TensBack.j0 k l1 l2 (decide ((l2.length : Int) > 4)) l0_0 l0_1)))) else (none))
theorem carousellaw6_TensBack.mono_l : ∀ k, (∀ y0 y1 y2 y3 y4, LeO (carousellaw6_TensBack.j0 k y0 y1 y2 y3 y4) (carousellaw6_TensBack.j0 (k + 1) y0 y1 y2 y3 y4)) ∧ (∀ y0 y1 y2, LeO (carousellaw6_TensBack.j2 k y0 y1 y2) (carousellaw6_TensBack.j2 (k + 1) y0 y1 y2)) ∧ (∀ y0 y1 y2 y3 y4 y5 y6 y7, LeO (carousellaw6_TensBack.l0 k y0 y1 y2 y3 y4 y5 y6 y7) (carousellaw6_TensBack.l0 (k + 1) y0 y1 y2 y3 y4 y5 y6 y7))
 | 0 => ⟨fun _ _ _ _ _ r h => by simp [carousellaw6_TensBack.j0] at h, fun _ _ _ r h => by simp [carousellaw6_TensBack.j2] at h, fun _ _ _ _ _ _ _ _ r h => by simp [carousellaw6_TensBack.l0] at h⟩
 | k + 1 => by
  obtain ⟨ih0, ih1, ih2⟩ := carousellaw6_TensBack.mono_l k
  refine ⟨?_, ?_, ?_⟩
  ·intro y0 y1 y2 y3 y4
   unfold carousellaw6_TensBack.j0
   repeat' first
   | (with_reducible exact ih0 _ _ _ _ _)
   | (with_reducible exact ih1 _ _ _)
   | (with_reducible exact ih2 _ _ _ _ _ _ _ _)
   | (with_reducible exact tens_Turn.mono _ _ _ _)
   | (with_reducible exact LeO.refl _)
   | (with_reducible exact LeO.none _)
   | (with_reducible refine LeO.ite ?_ ?_)
   | (with_reducible refine LeO.bind ?_ (fun _ => ?_))
   | exact ih0 _ _ _ _ _
   | exact ih1 _ _ _
   | exact ih2 _ _ _ _ _ _ _ _
   | exact tens_Turn.mono _ _ _ _
   | exact LeO.none _
   | refine LeO.ite ?_ ?_
   | refine LeO.bind ?_ (fun _ => ?_)
  ·intro y0 y1 y2
   unfold carousellaw6_TensBack.j2
   repeat' first
   | (with_reducible exact ih0 _ _ _ _ _)
   | (with_reducible exact ih1 _ _ _)
   | (with_reducible exact ih2 _ _ _ _ _ _ _ _)
   | (with_reducible exact tens_Reshape.mono _ _ _ _)
   | (with_reducible exact tens_Same.mono _ _ _ _ _)
   | (with_reducible exact LeO.refl _)
   | (with_reducible exact LeO.none _)
   | (with_reducible refine LeO.ite ?_ ?_)
   | (with_reducible refine LeO.bind ?_ (fun _ => ?_))
   | exact ih0 _ _ _ _ _
   | exact ih1 _ _ _
   | exact ih2 _ _ _ _ _ _ _ _
   | exact tens_Reshape.mono _ _ _ _
   | exact tens_Same.mono _ _ _ _ _
   | exact LeO.none _
   | refine LeO.ite ?_ ?_
   | refine LeO.bind ?_ (fun _ => ?_)
  ·intro y0 y1 y2 y3 y4 y5 y6 y7
   unfold carousellaw6_TensBack.l0
   repeat' first
   | (with_reducible exact ih0 _ _ _ _ _)
   | (with_reducible exact ih1 _ _ _)
   | (with_reducible exact ih2 _ _ _ _ _ _ _ _)
   | (with_reducible exact tens_Same.mono _ _ _ _ _)
   | (with_reducible exact tens_Turn.mono _ _ _ _)
   | (with_reducible exact LeO.refl _)
   | (with_reducible exact LeO.none _)
   | (with_reducible refine LeO.ite ?_ ?_)
   | (with_reducible refine LeO.bind ?_ (fun _ => ?_))
   | exact ih0 _ _ _ _ _
   | exact ih1 _ _ _
   | exact ih2 _ _ _ _ _ _ _ _
   | exact tens_Same.mono _ _ _ _ _
   | exact tens_Turn.mono _ _ _ _
   | exact LeO.none _
   | refine LeO.ite ?_ ?_
   | refine LeO.bind ?_ (fun _ => ?_)
theorem carousellaw6_TensBack.mono : ∀ a0 a1 a2 a3 k, LeO (carousellaw6_TensBack.f k a0 a1 a2 a3) (carousellaw6_TensBack.f (k + 1) a0 a1 a2 a3) := by
 intro a0 a1 a2 a3 k
 obtain ⟨ih0, ih1, ih2⟩ := carousellaw6_TensBack.mono_l k
 unfold carousellaw6_TensBack.f
 repeat' first
   | (with_reducible exact ih0 _ _ _ _ _)
   | (with_reducible exact ih1 _ _ _)
   | (with_reducible exact ih2 _ _ _ _ _ _ _ _)
   | (with_reducible exact carousellaw6_awake.mono _)
   | (with_reducible exact LeO.refl _)
   | (with_reducible exact LeO.none _)
   | (with_reducible refine LeO.ite ?_ ?_)
   | (with_reducible refine LeO.bind ?_ (fun _ => ?_))
   | exact ih0 _ _ _ _ _
   | exact ih1 _ _ _
   | exact ih2 _ _ _ _ _ _ _ _
   | exact carousellaw6_awake.mono _
   | exact LeO.none _
   | refine LeO.ite ?_ ?_
   | refine LeO.bind ?_ (fun _ => ?_)
set_option maxHeartbeats 8000000 in
set_option maxRecDepth 100000 in
theorem carousellaw6_TensBack.calls (k : Nat) (A0_0 : Option Addr) (c0_0 : Nat) (l0_0 : List Int) (A0_1 : Option Addr) (c0_1 : Nat) (l0_1 : List Int) (A1 : Option Addr) (c1 : Nat) (l1 : List Int) (A2 : Option Addr) (c2 : Nat) (l2 : List Int) (r : Bool) (w : World) (hr0_0 : Kd.C (Kd.int .i64) w A0_0 l0_0.length l0_0) (hc0_0 : l0_0.length ≤ c0_0) (hr0_1 : Kd.C (Kd.int .i64) w A0_1 l0_1.length l0_1) (hc0_1 : l0_1.length ≤ c0_1) (hr1 : Kd.C (Kd.int .i64) w A1 l1.length l1) (hc1 : l1.length ≤ c1) (hr2 : Kd.C (Kd.int .i64) w A2 l2.length l2) (hc2 : l2.length ≤ c2) (h : carousellaw6_TensBack.f k l0_0 l0_1 l1 l2 = some r) :
  Calls Try.prog 7 #[.agg #[.slice A0_0 l0_0.length c0_0, .slice A0_1 l0_1.length c0_1], .slice A1 l1.length c1, .slice A2 l2.length c2] w fun e w' => e = .returned (.bool r) ∧ Below w.heap.size w w' := by
 have hu27 := Try.underlying27
 have HR0_0 := Aside0.mk hr0_0
 have HC0_0 := Aside0.mk hc0_0
 clear hr0_0 hc0_0
 have HR0_1 := Aside0.mk hr0_1
 have HC0_1 := Aside0.mk hc0_1
 clear hr0_1 hc0_1
 have HR1 := Aside0.mk hr1
 have HC1 := Aside0.mk hc1
 clear hr1 hc1
 have HR2 := Aside0.mk hr2
 have HC2 := Aside0.mk hc2
 clear hr2 hc2
 have HB := Aside0.mk (Below.refl w.heap.size w)
 have H : ((carousellaw6_awake.f k).bind fun t284 => (if t284 = true then ((carousellaw6_great.f l0_0 l0_1 300).bind fun t285 => (if t285 = true then (carousellaw6_TensBack.j0 k l1 l2 true l0_0 l0_1) else (if (l1.length : Int) > 4 then (carousellaw6_TensBack.j0 k l1 l2 true l0_0 l0_1) else (carousellaw6_TensBack.j0 k l1 l2 (decide ((l2.length : Int) > 4)) l0_0 l0_1)))) else (none))) = some r := h
 clear h
 replace H := Option.bind_eq_some_iff.mp H
 obtain ⟨t284, A40, H⟩ := H
 (try dsimp only at H)
 have A4 := Aside0.mk A40
 clear A40
 by_cases c5 : t284 = true
 ·subst c5
  have H1 := H
  rw [if_pos rfl] at H1
  clear H
  have H := H1
  clear H1
  have HC6 := Aside0.mk H
  clear H
  go_enter Try.func7, Try.ntmps7
  go_upto_region 3 with (first | ((with_reducible refine gate_dst (N := 3) rfl ?_); (try (refine gate_guard (by rfl) ?_; dsimp only)); refine box_event ?hg (N := 3) ?hd (cs := #[.slice A0_0 l0_0.length c0_0, .slice A0_1 l0_1.length c0_1]) (t := 27) ?hr ?_; (case hd => rfl); (case hg => rfl); (case hr => first | (go_simp; done) | (go_simp; rfl)); intro gb283 hg w7 hbox hb; have n0_ := Aside0.mk (below_step (zw0_ HB) hb); have n1_ := Aside0.mk (hbox); have n2_ := Aside0.mk (zs_ hg (zw0_ HB)); have n3_ := Aside0.mk (zs_ hg (zw0_ HB)); clear HB; have HB := n0_; have BK283 := n1_; have GW283 := n2_; have GE283 := n3_; clear n0_ n1_ n2_ n3_; clear hb hbox hg) | ((with_reducible refine gate_callee (f := 11) rfl ?_); refine zg_ (some 17) Try.func11 #[] (h := ?_); (with_reducible refine (carousellaw6_awake.calls k  true _ A4.out).mono ?_); rintro e w8 ⟨rfl, hb⟩; refine ⟨_, rfl, ?_⟩; have n0_ := Aside0.mk (zl_ BK283 hb); have n1_ := Aside0.mk (below_step (zw1_ HB GE283) hb); clear BK283 HB; have BK283 := n0_; have HB := n1_; clear n0_ n1_; (try clear hb); (try clear hb2); (try clear hk); (try clear hi)))
  (try simp only [Act.put, List.setIfInBounds_toArray, List.set_cons_zero, List.set_cons_succ])
  go_cut [30] (fun v30 wc => ∃ (kq : Nat) (x30_5 : Bool), v30 = .bool x30_5 ∧ Aside0 (carousellaw6_TensBack.j0 kq l1 l2 x30_5 l0_0 l0_1 = some r) ∧ Aside0 (kq ≤ k) ∧ Aside0 (wc.heap[gb283]? = some (.cells #[(.slice A0_0 l0_0.length c0_0), (.slice A0_1 l0_1.length c0_1)] 27 (0, 0))) ∧ Aside0 (Below w.heap.size w wc))
  case first =>
   have H := HC6.out
   clear HC6
   replace H := Option.bind_eq_some_iff.mp H
   obtain ⟨t285, A90, H⟩ := H
   (try dsimp only at H)
   have A9 := Aside0.mk A90
   clear A90
   by_cases c10 : t285 = true
   ·subst c10
    have H1 : (carousellaw6_TensBack.j0 k l1 l2 true l0_0 l0_1) = some r := by rw [if_pos rfl] at H; exact H
    clear H
    have H := H1
    clear H1
    have H' := Aside0.mk H
    clear H
    have hcz11_0 := zx_ (v := .slice A0_0 l0_0.length c0_0) BK283 0
    have hcz11_1 := zx_ (v := .slice A0_1 l0_1.length c0_1) BK283 1
    have hfz11_0 := blk_frozen BK283.out 0
    have hfz11_1 := blk_frozen BK283.out 1
    go_wp2_with (first | ((with_reducible refine gate_callee (f := 17) rfl ?_); refine zg_ (some 20) Try.func17 #[.agg #[.slice A0_0 l0_0.length c0_0, .slice A0_1 l0_1.length c0_1], .int .i64 300] (h := ?_); (with_reducible refine (carousellaw6_great.calls _ _ l0_0 _ _ l0_1 300 true _ ?side1 ?side2 ?side3 ?side4 A9.out).mono ?_); (case side1 => exact zk_ (Kd.C_below HR0_0.out HB.out)); (case side2 => exact HC0_0.out); (case side3 => exact zk_ (Kd.C_below HR0_1.out HB.out)); (case side4 => exact HC0_1.out); rintro e w12 ⟨rfl, hb⟩; refine ⟨_, rfl, ?_⟩; have n0_ := Aside0.mk (zl_ BK283 hb); have n1_ := Aside0.mk (below_step (zw1_ HB GE283) hb); clear BK283 HB; have BK283 := n0_; have HB := n1_; clear n0_ n1_; (try clear hb); (try clear hb2); (try clear hk); (try clear hi)))
    go_meet
    case rel => exact ⟨_, (true), (by first | rfl | (simp; done) | (simp [*]; done)), H', ⟨by first | omega | exact Nat.le_refl _⟩, ⟨zb_ BK283⟩, ⟨zw1_ HB GE283⟩⟩
   ·replace c10 := Bool.eq_false_iff.mpr c10
    subst c10
    have H1 := H
    rw [if_neg (show ¬ (false = true) by decide)] at H1
    clear H
    have H := H1
    clear H1
    by_cases c13 : (l1.length : Int) > 4
    ·rw [if_pos c13] at H
     have c13b0 : decide (4 < (l1.length : Int)) = true := decide_eq_true c13
     have c13b1 : decide (4 < l1.length) = true := decide_eq_true (by omega)
     clear c13
     (first | rw [c13b0] | (simp only [i64_w, i32_w]; rw [c13b0]) | rw [c13b1] | skip)
     have H' := Aside0.mk H
     clear H
     have hcz14_0 := zx_ (v := .slice A0_0 l0_0.length c0_0) BK283 0
     have hcz14_1 := zx_ (v := .slice A0_1 l0_1.length c0_1) BK283 1
     have hfz14_0 := blk_frozen BK283.out 0
     have hfz14_1 := blk_frozen BK283.out 1
     go_wp2_with (first | ((with_reducible refine gate_callee (f := 17) rfl ?_); refine zg_ (some 20) Try.func17 #[.agg #[.slice A0_0 l0_0.length c0_0, .slice A0_1 l0_1.length c0_1], .int .i64 300] (h := ?_); (with_reducible refine (carousellaw6_great.calls _ _ l0_0 _ _ l0_1 300 false _ ?side1 ?side2 ?side3 ?side4 A9.out).mono ?_); (case side1 => exact zk_ (Kd.C_below HR0_0.out HB.out)); (case side2 => exact HC0_0.out); (case side3 => exact zk_ (Kd.C_below HR0_1.out HB.out)); (case side4 => exact HC0_1.out); rintro e w15 ⟨rfl, hb⟩; refine ⟨_, rfl, ?_⟩; have n0_ := Aside0.mk (zl_ BK283 hb); have n1_ := Aside0.mk (below_step (zw1_ HB GE283) hb); clear BK283 HB; have BK283 := n0_; have HB := n1_; clear n0_ n1_; (try clear hb); (try clear hb2); (try clear hk); (try clear hi)))
     go_meet
     case rel => exact ⟨_, (true), (by first | rfl | (simp; done) | (simp [*]; done)), H', ⟨by first | omega | exact Nat.le_refl _⟩, ⟨zb_ BK283⟩, ⟨zw1_ HB GE283⟩⟩
    ·rw [if_neg c13] at H
     have c13b0 : decide (4 < (l1.length : Int)) = false := decide_eq_false c13
     have c13b1 : decide (4 < l1.length) = false := decide_eq_false (by omega)
     clear c13
     (first | rw [c13b0] | (simp only [i64_w, i32_w]; rw [c13b0]) | rw [c13b1] | skip)
     have H' := Aside0.mk H
     clear H
     have hcz16_0 := zx_ (v := .slice A0_0 l0_0.length c0_0) BK283 0
     have hcz16_1 := zx_ (v := .slice A0_1 l0_1.length c0_1) BK283 1
     have hfz16_0 := blk_frozen BK283.out 0
     have hfz16_1 := blk_frozen BK283.out 1
     go_wp2_with (first | ((with_reducible refine gate_callee (f := 17) rfl ?_); refine zg_ (some 20) Try.func17 #[.agg #[.slice A0_0 l0_0.length c0_0, .slice A0_1 l0_1.length c0_1], .int .i64 300] (h := ?_); (with_reducible refine (carousellaw6_great.calls _ _ l0_0 _ _ l0_1 300 false _ ?side1 ?side2 ?side3 ?side4 A9.out).mono ?_); (case side1 => exact zk_ (Kd.C_below HR0_0.out HB.out)); (case side2 => exact HC0_0.out); (case side3 => exact zk_ (Kd.C_below HR0_1.out HB.out)); (case side4 => exact HC0_1.out); rintro e w17 ⟨rfl, hb⟩; refine ⟨_, rfl, ?_⟩; have n0_ := Aside0.mk (zl_ BK283 hb); have n1_ := Aside0.mk (below_step (zw1_ HB GE283) hb); clear BK283 HB; have BK283 := n0_; have HB := n1_; clear n0_ n1_; (try clear hb); (try clear hb2); (try clear hk); (try clear hi)))
     go_meet
     case rel => exact ⟨_, (decide ((l2.length : Int) > 4)), (by first | rfl | (simp; done) | (simp [*]; done)), H', ⟨by first | omega | exact Nat.le_refl _⟩, ⟨zb_ BK283⟩, ⟨zw1_ HB GE283⟩⟩
  case rest =>
   clear HC6
   try clear c1
   try clear c2
   try clear p2
   try clear c5
   try clear c7
   try clear c10
   try clear c11
   try clear c13
   try clear c13b0
   try clear c13b1
   try clear c17
   try clear hcz11_0
   try clear hcz11_1
   try clear hcz14_0
   try clear hcz14_1
   try clear hcz16_0
   try clear hcz16_1
   try clear hfz11_0
   try clear hfz11_1
   try clear hfz14_0
   try clear hfz14_1
   try clear hfz16_0
   try clear hfz16_1
   obtain ⟨kq, x30_5, rfl, HA, HJ5, BK283, HB⟩ := hcut
   cases kq with
   | zero => exact absurd HA.out (by simp [carousellaw6_TensBack.j0])
   | succ kj5 =>
    have H := HA.out
    clear HA
    simp only [carousellaw6_TensBack.j0] at H
    by_cases c18 : x30_5 = true
    ·subst c18
     have H1 : (some true) = some r := by rw [if_pos rfl] at H; exact H
     clear H
     have H := H1
     clear H1
     obtain rfl := Option.some.inj H
     go_wp2
     go_ret
     exact ⟨by first | rfl | (simp [errW_none, errW_some] <;> rfl) | (simp [*, errW_none, errW_some] <;> rfl), zw1_ HB GE283⟩
    ·replace c18 := Bool.eq_false_iff.mpr c18
     subst c18
     have H1 := H
     rw [if_neg (show ¬ (false = true) by decide)] at H1
     clear H
     have H := H1
     clear H1
     replace H := Option.bind_eq_some_iff.mp H
     obtain ⟨⟨t286, t289, t292⟩, A190, H⟩ := H
     (try dsimp only at H)
     have A19 := Aside0.mk A190
     clear A190
     have HC20 := Aside0.mk H
     clear H
     have hcz21_0 := zx_ (v := .slice A0_0 l0_0.length c0_0) BK283 0
     have hcz21_1 := zx_ (v := .slice A0_1 l0_1.length c0_1) BK283 1
     have hfz21_0 := blk_frozen BK283.out 0
     have hfz21_1 := blk_frozen BK283.out 1
     go_upto_if 38 with (first | ((with_reducible refine gate_callee (f := 25) rfl ?_); refine zg_ (some 34) Try.func25 #[.agg #[.slice A0_0 l0_0.length c0_0, .slice A0_1 l0_1.length c0_1], .slice A1 l1.length c1] (h := ?_); (with_reducible refine (tens_Turn.calls kj5 _ _ l0_0 _ _ l0_1 _ _ l1 t286 t289 t292 _ ?side1 ?side2 ?side3 ?side4 ?side5 ?side6 A19.out).mono ?_); (case side1 => exact zk_ (Kd.C_below HR0_0.out HB.out)); (case side2 => exact HC0_0.out); (case side3 => exact zk_ (Kd.C_below HR0_1.out HB.out)); (case side4 => exact HC0_1.out); (case side5 => exact zk_ (Kd.C_below HR1.out HB.out)); (case side6 => exact HC1.out); rintro e w22 ⟨v287, v290, rfl, ho0, ho1, hb⟩; refine ⟨_, rfl, ?_⟩; have n0_ := Aside0.mk (Kd.R_lower ho0 (below_size (zw1_ HB GE283))); have n1_ := Aside0.mk (Kd.R_lower ho1 (below_size (zw1_ HB GE283))); have n2_ := Aside0.mk (zl_ BK283 hb); have n3_ := Aside0.mk (below_step (zw1_ HB GE283) hb); clear BK283 HB; have HO288 := n0_; have HO291 := n1_; have BK283 := n2_; have HB := n3_; clear n0_ n1_ n2_ n3_; (try clear hb); (try clear hb2); (try clear hk); (try clear hi); (try clear ho0); (try clear ho1)) | ((with_reducible refine gate_dst (N := 7) rfl ?_); (try (refine gate_guard (by rfl) ?_; dsimp only)); refine box_event ?hg (N := 7) ?hd (cs := #[.slice none 0 0, .slice none 0 0]) (t := 27) ?hr ?_; (case hd => rfl); (case hg => rfl); (case hr => first | (go_simp; done) | (go_simp; rfl)); intro gb293 hg w23 hbox hb; have n0_ := Aside0.mk (Kd.R_below (zr_ HO288.out) hb); have n1_ := Aside0.mk (Kd.R_below (zr_ HO291.out) hb); have n2_ := Aside0.mk (zl_ BK283 hb); have n3_ := Aside0.mk (below_step (zw1_ HB GE283) hb); have n4_ := Aside0.mk (hbox); have n5_ := Aside0.mk (zs_ hg (zw1_ HB GE283)); have n6_ := Aside0.mk (zs_ hg (zw1_ HB GE283)); have n7_ := Aside0.mk (zn_ hg BK283); have n8_ := Aside0.mk (zm_ hg BK283); clear HO288 HO291 BK283 HB; have HO288 := n0_; have HO291 := n1_; have BK283 := n2_; have HB := n3_; have BK293 := n4_; have GW293 := n5_; have GE293 := n6_; have NB283_293 := n7_; have NB293_283 := n8_; clear n0_ n1_ n2_ n3_ n4_ n5_ n6_ n7_ n8_; clear hb hbox hg; obtain ⟨Ao24, co24, eo24⟩ := Kd.R_slice HO288.out; subst eo24; have hnb25 := NB293_283.out; have hnc25 := NB283_293.out; have hcz26_0 := zx_ (v := .slice none 0 0) BK293 0; have hcz26_1 := zx_ (v := .slice none 0 0) BK293 1; have hfz26_0 := blk_frozen BK293.out 0; have hfz26_1 := blk_frozen BK293.out 1; obtain ⟨Ao27, co27, eo27⟩ := Kd.R_slice HO291.out; subst eo27))
     (try simp only [Act.put, List.setIfInBounds_toArray, List.set_cons_zero, List.set_cons_succ])
     go_cut [] (fun wc => ∃ (kq : Nat) (x294000_19 : List Int) (u294000 : Value), Aside0 (carousellaw6_TensBack.j2 kq l2 l0_0 l0_1 = some r) ∧ Aside0 (kq ≤ kj5) ∧ Aside0 (Kd.R (Kd.int .i64) 3 wc w.heap.size (fun _ => True) u294000 x294000_19) ∧ Aside0 (Kd.R (Kd.int .i64) 23 wc w.heap.size (fun _ => True) (.slice Ao27 t289.length co27) t289) ∧ Aside0 (wc.heap[gb283]? = some (.cells #[(.slice A0_0 l0_0.length c0_0), (.slice A0_1 l0_1.length c0_1)] 27 (0, 0))) ∧ Aside0 (wc.heap[gb293]? = some (.cells #[u294000, (.slice Ao27 t289.length co27)] 27 (0, 0))) ∧ Aside0 (Below w.heap.size w wc))
     case first =>
      have H := HC20.out
      clear HC20
      by_cases c28 : t292 = 0
      ·rw [if_pos c28] at H
       have c28b0 : (t292 == 0) = true := beq_iff_eq.mpr c28
       have c28b1 : (t292 != 0) = false := bne_eq_false_iff_eq.mpr c28
       clear c28
       (first | rw [c28b0] | (simp only [i64_w, i32_w]; rw [c28b0]) | skip)
       by_cases c29 : 0 ≤ (l1.length : Int)
       ·rw [if_pos c29] at H
        have c29b0 := eq_true c29
        have c29b1 : decide (0 ≤ (l1.length : Int)) = true := decide_eq_true c29
        clear c29
        by_cases c30 : ((l1.length : Int) : Int).toNat ≤ 35184372088832
        ·rw [if_pos c30] at H
         have c30b0 := eq_true c30
         have c30b1 : decide (((l1.length : Int) : Int).toNat ≤ 35184372088832) = true := decide_eq_true c30
         clear c30
         obtain ⟨y294, hy294⟩ : ∃ y_ : List Int, y_ = (List.replicate ((l1.length : Int) : Int).toNat 0) := ⟨_, rfl⟩
         replace H : (carousellaw6_TensBack.l0 kj5 l1 l2 y294 0 l0_0 l0_1 t286 t289) = some r := by first | (rw [hy294]; with_reducible exact H) | (have H2_ := (Option.bind_some _ _).symm.trans H; rw [hy294]; with_reducible exact H2_) | (have H2_ := (Option.bind_some _ _).symm.trans H; with_reducible exact H2_) | with_reducible exact H | (rw [hy294]; exact H) | exact H
         have Ny294 := Aside0.mk hy294
         clear hy294
         have H' := Aside0.mk H
         clear H
         go_wp2_with (first | ((with_reducible refine gate_dst (N := 41) rfl ?_); (try (refine gate_guard (by rfl) ?_; dsimp only)); refine Kd.R_make (Kd.int .i64) _ 3 rfl (N := 41) rfl 22 _ _ rfl (l1.length : Int) rfl rfl Try.underlying22 (.int .i64 0) 8 info3 rfl (by decide) (by omega) 0 (ok := fun _ => True) (okp := fun _ => True) rfl (fun _ hk => hk) trivial (of_decide_eq_true (by first | (with_reducible assumption) | assumption)) (Nat.le_trans (Nat.mul_le_mul_right _ (of_decide_eq_true (by first | (with_reducible assumption) | assumption) : (l1.length : Int).toNat ≤ 35184372088832)) (by omega)) (Below.refl _ _) (Nat.le_refl _) ?_; intro v295 w31 ho32 hb hg_ hnew_; clear hg_ hnew_; (first | rw [← Ny294.out] at ho32 | (simp only [Int.reduceToNat] at ho32; rw [← Ny294.out] at ho32)); have n0_ := Aside0.mk (Kd.R_elder' (zr_ ((Kd.R_mono (Kd.R_far (p := ⟨gb293, 1, none⟩) (Kd.R_far (p := ⟨gb293, 0, none⟩) (Kd.R_types HO288.out BK293.out (by decide)) (fun _ hk => hk.2) (.slice Ao24 t286.length co24)) (fun _ hk => hk.2) (.slice Ao27 t289.length co27)) (fun _ h_ => h_.1)))) (Kd.R_base ho32) hb); have n1_ := Aside0.mk (Kd.R_below (zr_ ((Kd.R_mono (Kd.R_far (p := ⟨gb293, 1, none⟩) (Kd.R_far (p := ⟨gb293, 0, none⟩) (Kd.R_types HO291.out BK293.out (by decide)) (fun _ hk => hk.2) (.slice Ao24 t286.length co24)) (fun _ hk => hk.2) (.slice Ao27 t289.length co27)) (fun _ h_ => h_.1)))) hb); have n2_ := Aside0.mk (Kd.R_lower (Kd.R_new' ho32 (Kd.R_lt (zr_ ((Kd.R_mono (Kd.R_far (p := ⟨gb293, 1, none⟩) (Kd.R_far (p := ⟨gb293, 0, none⟩) (Kd.R_types HO288.out BK293.out (by decide)) (fun _ hk => hk.2) (.slice Ao24 t286.length co24)) (fun _ hk => hk.2) (.slice Ao27 t289.length co27)) (fun _ h_ => h_.1)))))) (below_size (zw2_ HB GE283 GE293))); have n3_ := Aside0.mk (blk_below (g := gb283) (o := .cells #[.slice A0_0 l0_0.length c0_0, .slice A0_1 l0_1.length c0_1] 27 (0, 0)) (by (with_reducible repeat (first | refine blk_drewN ?_ _ | refine blk_drew ?_ | refine blk_alloc ?_ _)); refine blk_far ?_ NB283_293.out _; (with_reducible repeat (first | refine blk_drewN ?_ _ | refine blk_drew ?_ | refine blk_alloc ?_ _)); refine blk_far ?_ NB283_293.out _; (with_reducible repeat (first | refine blk_drewN ?_ _ | refine blk_drew ?_ | refine blk_alloc ?_ _)); exact BK283.out) hb); have n4_ := Aside0.mk (blk_below (g := gb293) (o := .cells #[.slice Ao24 t286.length co24, .slice Ao27 t289.length co27] 27 (0, 0)) (by (with_reducible repeat (first | refine blk_drewN ?_ _ | refine blk_drew ?_ | refine blk_alloc ?_ _)); refine blk_put (cs := #[.slice Ao24 t286.length co24, .slice none 0 0]) ?_ 1 _ rfl; (with_reducible repeat (first | refine blk_drewN ?_ _ | refine blk_drew ?_ | refine blk_alloc ?_ _)); refine blk_put (cs := #[.slice none 0 0, .slice none 0 0]) ?_ 0 _ rfl; (with_reducible repeat (first | refine blk_drewN ?_ _ | refine blk_drew ?_ | refine blk_alloc ?_ _)); exact BK293.out) hb); have n5_ := Aside0.mk (below_step (zw2_ HB GE283 GE293) hb); clear HO288 HO291 BK283 BK293 HB; have HO288 := n0_; have HO291 := n1_; have HO296 := n2_; have BK283 := n3_; have BK293 := n4_; have HB := n5_; clear n0_ n1_ n2_ n3_ n4_ n5_; clear hb ho32))
         go_loopg [10] kj5 (fun kq v10 w' => ∃ (x9_2 : List Int) (x10_2 : Int), v10 = .int .i64 x10_2 ∧ Aside0 (carousellaw6_TensBack.l0 kq l1 l2 x9_2 x10_2 l0_0 l0_1 t286 t289 = some r) ∧ Aside0 (kq ≤ kj5) ∧ Aside0 (Kd.R (Kd.int .i64) 3 w' w.heap.size (fun k_ => some k_ ≠ ((.slice Ao24 t286.length co24) : Value).ownBlock) v295 x9_2) ∧ Aside0 (Kd.R (Kd.int .i64) 3 w' w.heap.size (fun k_ => some k_ ≠ (v295 : Value).ownBlock) (.slice Ao24 t286.length co24) t286) ∧ Aside0 (Kd.R (Kd.int .i64) 23 w' w.heap.size (fun _ => True) (.slice Ao27 t289.length co27) t289) ∧ Aside0 (w'.heap[gb283]? = some (.cells #[(.slice A0_0 l0_0.length c0_0), (.slice A0_1 l0_1.length c0_1)] 27 (0, 0))) ∧ Aside0 (w'.heap[gb293]? = some (.cells #[(.slice Ao24 t286.length co24), (.slice Ao27 t289.length co27)] 27 (0, 0))) ∧ Aside0 (Below w.heap.size w w'))
         case atStart => exact ⟨(y294), (0), (by first | rfl | (simp; done) | (simp [*]; done)), H', ⟨Nat.le_refl _⟩, ⟨zr_ (Kd.R_mono HO296.out (fun _ hk => hk.2))⟩, ⟨zr_ (Kd.R_mono HO288.out (fun _ hk => hk.2))⟩, ⟨zr_ HO291.out⟩, ⟨zb_ BK283⟩, ⟨zb_ BK293⟩, ⟨zw2_ HB GE283 GE293⟩⟩
         case round =>
          clear H'
          try clear c1
          try clear c2
          try clear p2
          try clear c3
          try clear c5
          try clear c7
          try clear c10
          try clear c11
          try clear c13
          try clear c13b0
          try clear c13b1
          try clear c17
          try clear c18
          try clear c25
          try clear c28
          try clear c28b0
          try clear c28b1
          try clear c29
          try clear c29b0
          try clear c29b1
          try clear c30
          try clear c30b0
          try clear c30b1
          try clear hcz11_0
          try clear hcz11_1
          try clear hcz14_0
          try clear hcz14_1
          try clear hcz16_0
          try clear hcz16_1
          try clear hcz21_0
          try clear hcz21_1
          try clear hcz26_0
          try clear hcz26_1
          try clear hfz11_0
          try clear hfz11_1
          try clear hfz14_0
          try clear hfz14_1
          try clear hfz16_0
          try clear hfz16_1
          try clear hfz21_0
          try clear hfz21_1
          try clear hfz26_0
          try clear hfz26_1
          try clear p2
          obtain ⟨x9_2, x10_2, rfl, HA, HK2, HO_9, HO_294000, HO_294001, BK283, BK293, HB⟩ := hrel
          cases gk with
          | zero => exact absurd HA.out (by simp [carousellaw6_TensBack.l0])
          | succ k2 =>
           have H := HA.out
           clear HA
           simp only [carousellaw6_TensBack.l0] at H
           by_cases c33 : x10_2 < (l1.length : Int)
           ·rw [if_pos c33] at H
            have c33b0 : decide (x10_2 < (l1.length : Int)) = true := decide_eq_true c33
            clear c33
            by_cases c34 : 0 ≤ x10_2
            ·rw [if_pos c34] at H
             have c34b0 : decide (0 ≤ x10_2) = true := decide_eq_true c34
             clear c34
             by_cases c35 : 0 ≤ (rd l1 x10_2)
             ·rw [if_pos c35] at H
              have c35b0 : decide (0 ≤ (rd l1 x10_2)) = true := decide_eq_true c35
              clear c35
              by_cases c36 : (rd l1 x10_2) < (x9_2.length : Int)
              ·rw [if_pos c36] at H
               have c36b0 : decide ((rd l1 x10_2) < (x9_2.length : Int)) = true := decide_eq_true c36
               clear c36
               obtain ⟨y298, hy298⟩ : ∃ y_ : List Int, y_ = (x9_2.set ((rd l1 x10_2) : Int).toNat x10_2) := ⟨_, rfl⟩
               replace H : (carousellaw6_TensBack.l0 k2 l1 l2 y298 (wrap64 (x10_2 + 1)) l0_0 l0_1 t286 t289) = some r := by first | (rw [hy298]; with_reducible exact H) | (have H2_ := (Option.bind_some _ _).symm.trans H; rw [hy298]; with_reducible exact H2_) | (have H2_ := (Option.bind_some _ _).symm.trans H; with_reducible exact H2_) | with_reducible exact H | (rw [hy298]; exact H) | exact H
               have Ny298 := Aside0.mk hy298
               clear hy298
               have H' := Aside0.mk H
               clear H
               have p297 : 0 ≤ (x10_2 : Int) := of_decide_eq_true (by first | (with_reducible assumption) | assumption)
               have q297 : x10_2 < (l1.length : Int) := of_decide_eq_true (by first | (with_reducible assumption) | assumption)
               obtain ⟨ad297, e297, hx297_0⟩ := Kd.at_int HR1.out x10_2 p297 q297
               cases e297
               replace hx297_0 := (HB.out.cell (World.block_lt_of_cell? w _ hx297_0)).trans hx297_0
               replace p297 := eq_true p297
               replace q297 := eq_true q297
               have p37 : 0 ≤ ((rd l1 x10_2) : Int) := of_decide_eq_true (by first | (with_reducible assumption) | assumption)
               have q37 : ((rd l1 x10_2) : Int) < ((x9_2.length : Int) : Int) := of_decide_eq_true (by first | (with_reducible assumption) | assumption)
               obtain ⟨go37, co37, eo37, gb37, gl37, cl37, HG37⟩ := Kd.R_form HO_9.out (by omega)
               (first | cases eo37 | (injection eo37 with ea_ en_ ec_; (first | subst ea_ | (injection ea_ with ea_; subst ea_)); subst ec_; clear en_))
               have GB37 := Aside0.mk gb37
               have GG37 := Aside0.mk HG37
               clear gb37 gl37 HG37
               obtain ⟨hx37_0, hf37_0⟩ := Kd.R_celln 0 HO_9.out ((rd l1 x10_2) : Int) p37 q37
               replace p37 := eq_true p37
               replace q37 := eq_true q37
               have HP38 := Kd.R_putg HO_9.out ((rd l1 x10_2) : Int) x10_2
               go_wp2_with (first | ((with_reducible refine gate_store (t := 3) (p := 54) rfl ?_); refine store_event (t := 3) (p := 54) (v := ?vo_w39) (w1 := (wr.setCell ⟨go37, ((rd l1 x10_2) : Int).toNat, none⟩ (.int .i64 x10_2))) ?hg ?ho ?hn ?hr ?_; (case ho => rfl); (case hg => rfl); (case hn => rfl); (case hr => first | (go_simp; done) | (go_simp; rfl)); intro w39 hw; have hg : wr.grownBy w39 (some go37) := (by rw [hw]; exact HP38.2); have hp_ : Kd.R (Kd.int .i64) 3 w39 w.heap.size (fun k_ => some k_ ≠ (.slice Ao24 t286.length co24 : Value).ownBlock) (.slice (some ⟨go37, 0, none⟩) x9_2.length co37) y298 := (by rw [hw, Ny298.out]; exact HP38.1); clear HP38; have n0_ := Aside0.mk (hp_); have n1_ := Aside0.mk (Kd.R_after (v := (.slice (some ⟨go37, 0, none⟩) x9_2.length co37)) (v1 := (.slice (some ⟨go37, 0, none⟩) x9_2.length co37)) (ok := (fun _ => True)) (zr_ (Kd.R_mono HO_294000.out (fun _ hk => ⟨trivial, hk⟩))) hg (.inl rfl)); have n2_ := Aside0.mk (Kd.R_over' (v := (.slice (some ⟨go37, 0, none⟩) x9_2.length co37)) (zr_ HO_294001.out) (Kd.R_typed HO_9.out) (by decide) hg); have n3_ := Aside0.mk (blk_grown (g := gb283) (o := .cells #[.slice A0_0 l0_0.length c0_0, .slice A0_1 l0_1.length c0_1] 27 (0, 0)) (zb_ BK283) hg (Kd.R_ne HO_9.out BK283.out (by decide))); have n4_ := Aside0.mk (blk_grown (g := gb293) (o := .cells #[.slice Ao24 t286.length co24, .slice Ao27 t289.length co27] 27 (0, 0)) (zb_ BK293) hg (Kd.R_ne HO_9.out BK293.out (by decide))); have n5_ := Aside0.mk ((by rw [hw]; exact below_set (HB.out) GB37.out : Below w.heap.size w w39)); clear HO_9 HO_294000 HO_294001 BK283 BK293 HB; have HO_9 := n0_; have HO_294000 := n1_; have HO_294001 := n2_; have BK283 := n3_; have BK293 := n4_; have HB := n5_; clear n0_ n1_ n2_ n3_ n4_ n5_; clear hg hw hp_))
               go_roundg k2
               case measure => have := HJ5.out; have := HK2.out; omega
               case rel => exact ⟨(y298), (wrap64 (x10_2 + 1)), (by first | rfl | (simp; done) | (simp [*]; done)), H', ⟨by have := HJ5.out; have := HK2.out; omega⟩, ⟨zr_ HO_9.out⟩, ⟨zr_ (Kd.R_mono HO_294000.out (fun _ hk => hk.2))⟩, ⟨zr_ HO_294001.out⟩, ⟨zb_ BK283⟩, ⟨zb_ BK293⟩, ⟨zw2_ HB GE283 GE293⟩⟩
              ·rw [if_neg c36] at H
               exact absurd H (by simp)
             ·rw [if_neg c35] at H
              exact absurd H (by simp)
            ·rw [if_neg c34] at H
             exact absurd H (by simp)
           ·rw [if_neg c33] at H
            have c33b0 : decide (x10_2 < (l1.length : Int)) = false := decide_eq_false c33
            clear c33
            replace H := Option.bind_eq_some_iff.mp H
            obtain ⟨⟨t299, t302, t305⟩, A400, H⟩ := H
            (try dsimp only at H)
            have A40 := Aside0.mk A400
            clear A400
            by_cases c41 : t305 = 0
            ·rw [if_pos c41] at H
             have c41b0 : (t305 == 0) = true := beq_iff_eq.mpr c41
             have c41b1 : (t305 != 0) = false := bne_eq_false_iff_eq.mpr c41
             clear c41
             replace H := Option.bind_eq_some_iff.mp H
             obtain ⟨t307, A420, H⟩ := H
             replace H : (if t307 = true then (carousellaw6_TensBack.j2 k2 l2 l0_0 l0_1) else (none)) = some r := H
             have A42 := Aside0.mk A420
             clear A420
             by_cases c43 : t307 = true
             ·subst c43
              have H1 : (carousellaw6_TensBack.j2 k2 l2 l0_0 l0_1) = some r := by rw [if_pos rfl] at H; exact H
              clear H
              have H := H1
              clear H1
              have H' := Aside0.mk H
              clear H
              have hnb44 := NB293_283.out
              have hnc44 := NB283_293.out
              have hcz45_0 := zx_ (v := .slice Ao24 t286.length co24) BK293 0
              have hcz45_1 := zx_ (v := .slice Ao27 t289.length co27) BK293 1
              have hfz45_0 := blk_frozen BK293.out 0
              have hfz45_1 := blk_frozen BK293.out 1
              obtain ⟨Ao46, co46, eo46⟩ := Kd.R_slice HO_9.out
              subst eo46
              go_wp2_with (first | ((with_reducible refine gate_callee (f := 25) rfl ?_); refine zg_ (some 58) Try.func25 #[.agg #[.slice Ao24 t286.length co24, .slice Ao27 t289.length co27], .slice Ao46 x9_2.length co46] (h := ?_); (with_reducible refine (tens_Turn.calls k2 _ _ t286 _ _ t289 _ _ x9_2 t299 t302 t305 _ ?side1 ?side2 ?side3 ?side4 ?side5 ?side6 A40.out).mono ?_); (case side1 => exact zk_ ((Kd.R_reads' HO_294000.out).2.2)); (case side2 => exact (Kd.R_reads' HO_294000.out).2.1); (case side3 => exact zk_ ((Kd.R_reads' HO_294001.out).2.2)); (case side4 => exact (Kd.R_reads' HO_294001.out).2.1); (case side5 => exact zk_ ((Kd.R_reads' HO_9.out).2.2)); (case side6 => exact (Kd.R_reads' HO_9.out).2.1); rintro e w47 ⟨v300, v303, rfl, ho0, ho1, hb⟩; refine ⟨_, rfl, ?_⟩; have n0_ := Aside0.mk (Kd.R_elder' (zr_ HO_9.out) (Kd.R_base ho0) hb); have n1_ := Aside0.mk (Kd.R_elder' (zr_ HO_294000.out) (Kd.R_base ho0) hb); have n2_ := Aside0.mk (Kd.R_elder' (zr_ HO_294001.out) (Kd.R_base ho1) hb); have n3_ := Aside0.mk (Kd.R_lower (Kd.R_new' (Kd.R_new' ho0 (Kd.R_lt (zr_ HO_9.out))) (Kd.R_lt (zr_ HO_294000.out))) (below_size (zw2_ HB GE283 GE293))); have n4_ := Aside0.mk (Kd.R_lower (Kd.R_new' ho1 (Kd.R_lt (zr_ HO_294001.out))) (below_size (zw2_ HB GE283 GE293))); have n5_ := Aside0.mk (zl_ BK283 hb); have n6_ := Aside0.mk (zl_ BK293 hb); have n7_ := Aside0.mk (below_step (zw2_ HB GE283 GE293) hb); clear HO_9 HO_294000 HO_294001 BK283 BK293 HB; have HO_9 := n0_; have HO_294000 := n1_; have HO_294001 := n2_; have HO301 := n3_; have HO304 := n4_; have BK283 := n5_; have BK293 := n6_; have HB := n7_; clear n0_ n1_ n2_ n3_ n4_ n5_ n6_ n7_; (try clear hb); (try clear hb2); (try clear hk); (try clear hi); (try clear ho0); (try clear ho1)) | ((with_reducible refine gate_dst (N := 11) rfl ?_); (try (refine gate_guard (by rfl) ?_; dsimp only)); refine box_event ?hg (N := 11) ?hd (cs := #[.slice none 0 0, .slice none 0 0]) (t := 27) ?hr ?_; (case hd => rfl); (case hg => rfl); (case hr => first | (go_simp; done) | (go_simp; rfl)); intro gb306 hg w48 hbox hb; have n0_ := Aside0.mk (Kd.R_below (zr_ HO_9.out) hb); have n1_ := Aside0.mk (Kd.R_below (zr_ HO_294000.out) hb); have n2_ := Aside0.mk (Kd.R_below (zr_ HO_294001.out) hb); have n3_ := Aside0.mk (Kd.R_below (zr_ HO301.out) hb); have n4_ := Aside0.mk (Kd.R_below (zr_ HO304.out) hb); have n5_ := Aside0.mk (zl_ BK283 hb); have n6_ := Aside0.mk (zl_ BK293 hb); have n7_ := Aside0.mk (below_step (zw2_ HB GE283 GE293) hb); have n8_ := Aside0.mk (hbox); have n9_ := Aside0.mk (zs_ hg (zw2_ HB GE283 GE293)); have n10_ := Aside0.mk (zs_ hg (zw2_ HB GE283 GE293)); have n11_ := Aside0.mk (zn_ hg BK283); have n12_ := Aside0.mk (zm_ hg BK283); have n13_ := Aside0.mk (zn_ hg BK293); have n14_ := Aside0.mk (zm_ hg BK293); clear HO_9 HO_294000 HO_294001 HO301 HO304 BK283 BK293 HB; have HO_9 := n0_; have HO_294000 := n1_; have HO_294001 := n2_; have HO301 := n3_; have HO304 := n4_; have BK283 := n5_; have BK293 := n6_; have HB := n7_; have BK306 := n8_; have GW306 := n9_; have GE306 := n10_; have NB283_306 := n11_; have NB306_283 := n12_; have NB293_306 := n13_; have NB306_293 := n14_; clear n0_ n1_ n2_ n3_ n4_ n5_ n6_ n7_ n8_ n9_ n10_ n11_ n12_ n13_ n14_; clear hb hbox hg; obtain ⟨Ao49, co49, eo49⟩ := Kd.R_slice HO301.out; subst eo49; have hnb50 := NB306_283.out; have hnc50 := NB283_306.out; have hnb51 := NB306_293.out; have hnc51 := NB293_306.out; have hcz52_0 := zx_ (v := .slice none 0 0) BK306 0; have hcz52_1 := zx_ (v := .slice none 0 0) BK306 1; have hfz52_0 := blk_frozen BK306.out 0; have hfz52_1 := blk_frozen BK306.out 1; obtain ⟨Ao53, co53, eo53⟩ := Kd.R_slice HO304.out; subst eo53; have hcz54_0 := zx_ (v := .slice A0_0 l0_0.length c0_0) BK283 0; have hcz54_1 := zx_ (v := .slice A0_1 l0_1.length c0_1) BK283 1; have hfz54_0 := blk_frozen BK283.out 0; have hfz54_1 := blk_frozen BK283.out 1) | (go_at_call 21; (with_reducible refine (tens_Same.calls k2 _ _ t299 _ _ t302 _ _ l0_0 _ _ l0_1 true _ ?side1 ?side2 ?side3 ?side4 ?side5 ?side6 ?side7 ?side8 A42.out).mono ?_); (case side1 => refine (Kd.R_reads' (e := 3) (base := w.heap.size) (ok := fun k_ => ((True ∧ some k_ ≠ (.slice Ao46 x9_2.length co46 : Value).ownBlock) ∧ some k_ ≠ (.slice Ao24 t286.length co24 : Value).ownBlock)) (n := t299.length) (c := co49) ?_).2.2; exact (zr_ ((Kd.R_mono (Kd.R_far (p := ⟨gb306, 1, none⟩) (Kd.R_far (p := ⟨gb306, 0, none⟩) (Kd.R_types HO301.out BK306.out (by decide)) (fun _ hk => hk.2) (.slice Ao49 t299.length co49)) (fun _ hk => hk.2) (.slice Ao53 t302.length co53)) (fun _ h_ => h_.1))))); (case side2 => exact (Kd.R_reads' HO301.out).2.1); (case side3 => refine (Kd.R_reads' (e := 23) (base := w.heap.size) (ok := fun k_ => (True ∧ some k_ ≠ (.slice Ao27 t289.length co27 : Value).ownBlock)) (n := t302.length) (c := co53) ?_).2.2; exact (zr_ ((Kd.R_mono (Kd.R_far (p := ⟨gb306, 1, none⟩) (Kd.R_far (p := ⟨gb306, 0, none⟩) (Kd.R_types HO304.out BK306.out (by decide)) (fun _ hk => hk.2) (.slice Ao49 t299.length co49)) (fun _ hk => hk.2) (.slice Ao53 t302.length co53)) (fun _ h_ => h_.1))))); (case side4 => exact (Kd.R_reads' HO304.out).2.1); (case side5 => exact Kd.C_below HR0_0.out (zw3_ HB GE283 GE293 GE306)); (case side6 => exact HC0_0.out); (case side7 => exact Kd.C_below HR0_1.out (zw3_ HB GE283 GE293 GE306)); (case side8 => exact HC0_1.out); rintro e w55 ⟨rfl, hb⟩; have n0_ := Aside0.mk (Kd.R_below (zr_ ((Kd.R_mono (Kd.R_far (p := ⟨gb306, 1, none⟩) (Kd.R_far (p := ⟨gb306, 0, none⟩) (Kd.R_types HO_9.out BK306.out (by decide)) (fun _ hk => hk.2) (.slice Ao49 t299.length co49)) (fun _ hk => hk.2) (.slice Ao53 t302.length co53)) (fun _ h_ => h_.1)))) hb); have n1_ := Aside0.mk (Kd.R_below (zr_ ((Kd.R_mono (Kd.R_far (p := ⟨gb306, 1, none⟩) (Kd.R_far (p := ⟨gb306, 0, none⟩) (Kd.R_types HO_294000.out BK306.out (by decide)) (fun _ hk => hk.2) (.slice Ao49 t299.length co49)) (fun _ hk => hk.2) (.slice Ao53 t302.length co53)) (fun _ h_ => h_.1)))) hb); have n2_ := Aside0.mk (Kd.R_below (zr_ ((Kd.R_mono (Kd.R_far (p := ⟨gb306, 1, none⟩) (Kd.R_far (p := ⟨gb306, 0, none⟩) (Kd.R_types HO_294001.out BK306.out (by decide)) (fun _ hk => hk.2) (.slice Ao49 t299.length co49)) (fun _ hk => hk.2) (.slice Ao53 t302.length co53)) (fun _ h_ => h_.1)))) hb); have n3_ := Aside0.mk (Kd.R_below (zr_ ((Kd.R_mono (Kd.R_far (p := ⟨gb306, 1, none⟩) (Kd.R_far (p := ⟨gb306, 0, none⟩) (Kd.R_types HO301.out BK306.out (by decide)) (fun _ hk => hk.2) (.slice Ao49 t299.length co49)) (fun _ hk => hk.2) (.slice Ao53 t302.length co53)) (fun _ h_ => h_.1)))) hb); have n4_ := Aside0.mk (Kd.R_below (zr_ ((Kd.R_mono (Kd.R_far (p := ⟨gb306, 1, none⟩) (Kd.R_far (p := ⟨gb306, 0, none⟩) (Kd.R_types HO304.out BK306.out (by decide)) (fun _ hk => hk.2) (.slice Ao49 t299.length co49)) (fun _ hk => hk.2) (.slice Ao53 t302.length co53)) (fun _ h_ => h_.1)))) hb); have n5_ := Aside0.mk (blk_below (g := gb283) (o := .cells #[.slice A0_0 l0_0.length c0_0, .slice A0_1 l0_1.length c0_1] 27 (0, 0)) (by (with_reducible repeat (first | refine blk_drewN ?_ _ | refine blk_drew ?_ | refine blk_alloc ?_ _)); refine blk_far ?_ NB283_306.out _; (with_reducible repeat (first | refine blk_drewN ?_ _ | refine blk_drew ?_ | refine blk_alloc ?_ _)); refine blk_far ?_ NB283_306.out _; (with_reducible repeat (first | refine blk_drewN ?_ _ | refine blk_drew ?_ | refine blk_alloc ?_ _)); exact BK283.out) hb); have n6_ := Aside0.mk (blk_below (g := gb293) (o := .cells #[.slice Ao24 t286.length co24, .slice Ao27 t289.length co27] 27 (0, 0)) (by (with_reducible repeat (first | refine blk_drewN ?_ _ | refine blk_drew ?_ | refine blk_alloc ?_ _)); refine blk_far ?_ NB293_306.out _; (with_reducible repeat (first | refine blk_drewN ?_ _ | refine blk_drew ?_ | refine blk_alloc ?_ _)); refine blk_far ?_ NB293_306.out _; (with_reducible repeat (first | refine blk_drewN ?_ _ | refine blk_drew ?_ | refine blk_alloc ?_ _)); exact BK293.out) hb); have n7_ := Aside0.mk (blk_below (g := gb306) (o := .cells #[.slice Ao49 t299.length co49, .slice Ao53 t302.length co53] 27 (0, 0)) (by (with_reducible repeat (first | refine blk_drewN ?_ _ | refine blk_drew ?_ | refine blk_alloc ?_ _)); refine blk_put (cs := #[.slice Ao49 t299.length co49, .slice none 0 0]) ?_ 1 _ rfl; (with_reducible repeat (first | refine blk_drewN ?_ _ | refine blk_drew ?_ | refine blk_alloc ?_ _)); refine blk_put (cs := #[.slice none 0 0, .slice none 0 0]) ?_ 0 _ rfl; (with_reducible repeat (first | refine blk_drewN ?_ _ | refine blk_drew ?_ | refine blk_alloc ?_ _)); exact BK306.out) hb); have n8_ := Aside0.mk (below_step (zw3_ HB GE283 GE293 GE306) hb); clear HO_9 HO_294000 HO_294001 HO301 HO304 BK283 BK293 BK306 HB; have HO_9 := n0_; have HO_294000 := n1_; have HO_294001 := n2_; have HO301 := n3_; have HO304 := n4_; have BK283 := n5_; have BK293 := n6_; have BK306 := n7_; have HB := n8_; clear n0_ n1_ n2_ n3_ n4_ n5_ n6_ n7_ n8_; (try clear hb); (try clear hb2); (try clear hk); (try clear hi)))
              go_meet
              case rel => exact ⟨_, (t286), (.slice Ao24 t286.length co24), H', ⟨by have := HJ5.out; have := HK2.out; first | omega | exact Nat.le_refl _⟩, ⟨zr_ (Kd.R_mono HO_294000.out (fun _ hk => trivial))⟩, ⟨zr_ (Kd.R_mono HO_294001.out (fun _ hk => trivial))⟩, ⟨zb_ BK283⟩, ⟨zb_ BK293⟩, ⟨zw3_ HB GE283 GE293 GE306⟩⟩
             ·replace c43 := Bool.eq_false_iff.mpr c43
              subst c43
              have H1 : (none) = some r := by rw [if_neg (show ¬ (false = true) by decide)] at H; exact H
              clear H
              have H := H1
              clear H1
              exact absurd H (by simp)
            ·rw [if_neg c41] at H
             exact absurd H (by simp)
        ·rw [if_neg c30] at H
         exact absurd H (by simp)
       ·rw [if_neg c29] at H
        exact absurd H (by simp)
      ·rw [if_neg c28] at H
       have c28b0 : (t292 == 0) = false := beq_eq_false_iff_ne.mpr c28
       have c28b1 : (t292 != 0) = true := bne_iff_ne.mpr c28
       (first | rw [c28b0] | (simp only [i64_w, i32_w]; rw [c28b0]) | skip)
       have H' := Aside0.mk H
       clear H
       go_wp2
       go_meet
       case rel => exact ⟨_, (t286), (.slice Ao24 t286.length co24), H', ⟨by have := HJ5.out; first | omega | exact Nat.le_refl _⟩, ⟨zr_ (Kd.R_mono (Kd.R_far (p := ⟨gb293, 1, none⟩) (Kd.R_far (p := ⟨gb293, 0, none⟩) (Kd.R_types HO288.out BK293.out (by decide)) (fun _ hk => hk.2) (.slice Ao24 t286.length co24)) (fun _ hk => hk.2) (.slice Ao27 t289.length co27)) (fun _ hk => trivial))⟩, ⟨zr_ (Kd.R_mono (Kd.R_far (p := ⟨gb293, 1, none⟩) (Kd.R_far (p := ⟨gb293, 0, none⟩) (Kd.R_types HO291.out BK293.out (by decide)) (fun _ hk => hk.2) (.slice Ao24 t286.length co24)) (fun _ hk => hk.2) (.slice Ao27 t289.length co27)) (fun _ hk => trivial))⟩, ⟨by (with_reducible repeat (first | refine blk_drewN ?_ _ | refine blk_drew ?_ | refine blk_alloc ?_ _)); refine blk_far ?_ NB283_293.out _; (with_reducible repeat (first | refine blk_drewN ?_ _ | refine blk_drew ?_ | refine blk_alloc ?_ _)); refine blk_far ?_ NB283_293.out _; (with_reducible repeat (first | refine blk_drewN ?_ _ | refine blk_drew ?_ | refine blk_alloc ?_ _)); exact BK283.out⟩, ⟨by (with_reducible repeat (first | refine blk_drewN ?_ _ | refine blk_drew ?_ | refine blk_alloc ?_ _)); refine blk_put (cs := #[.slice Ao24 t286.length co24, .slice none 0 0]) ?_ 1 _ rfl; (with_reducible repeat (first | refine blk_drewN ?_ _ | refine blk_drew ?_ | refine blk_alloc ?_ _)); refine blk_put (cs := #[.slice none 0 0, .slice none 0 0]) ?_ 0 _ rfl; (with_reducible repeat (first | refine blk_drewN ?_ _ | refine blk_drew ?_ | refine blk_alloc ?_ _)); exact BK293.out⟩, ⟨zw2_ HB GE283 GE293⟩⟩
     case rest =>
      clear HC20
      try clear c1
      try clear c2
      try clear p2
      try clear q2
      try clear hx2
      try clear c3
      try clear p3
      try clear q3
      try clear hx3
      try clear hf3
      try clear c4
      try clear c5
      try clear p6
      try clear c7
      try clear c10
      try clear c11
      try clear c13
      try clear c13b0
      try clear c13b1
      try clear c17
      try clear c18
      try clear c25
      try clear c28
      try clear c28b0
      try clear c28b1
      try clear c29
      try clear c29b0
      try clear c29b1
      try clear p29
      try clear q29
      try clear hx29
      try clear c30
      try clear c30b0
      try clear c30b1
      try clear c33
      try clear c33b0
      try clear c34
      try clear c34b0
      try clear c35
      try clear c35b0
      try clear c36
      try clear c36b0
      try clear p37
      try clear q37
      try clear hx37
      try clear hf37
      try clear c41
      try clear c41b0
      try clear c41b1
      try clear c43
      try clear c44
      try clear c50
      try clear c51
      try clear hcz11_0
      try clear hcz11_1
      try clear hcz14_0
      try clear hcz14_1
      try clear hcz16_0
      try clear hcz16_1
      try clear hcz21_0
      try clear hcz21_1
      try clear hcz26_0
      try clear hcz26_1
      try clear hcz45_0
      try clear hcz45_1
      try clear hcz52_0
      try clear hcz52_1
      try clear hcz54_0
      try clear hcz54_1
      try clear hfz11_0
      try clear hfz11_1
      try clear hfz14_0
      try clear hfz14_1
      try clear hfz16_0
      try clear hfz16_1
      try clear hfz21_0
      try clear hfz21_1
      try clear hfz26_0
      try clear hfz26_1
      try clear hfz45_0
      try clear hfz45_1
      try clear hfz52_0
      try clear hfz52_1
      try clear hfz54_0
      try clear hfz54_1
      try clear hx297_0
      try clear hx37_0
      try clear p2
      try clear p297
      try clear p37
      try clear q297
      try clear q37
      obtain ⟨kq, x294000_19, u294000, HA, HJ19, HO_294000, HO_294001, BK283, BK293, HB⟩ := hcut
      cases kq with
      | zero => exact absurd HA.out (by simp [carousellaw6_TensBack.j2])
      | succ kj19 =>
       have H := HA.out
       clear HA
       simp only [carousellaw6_TensBack.j2] at H
       replace H := Option.bind_eq_some_iff.mp H
       obtain ⟨⟨t308, t311, t314⟩, A560, H⟩ := H
       (try dsimp only at H)
       have A56 := Aside0.mk A560
       clear A560
       by_cases c57 : t314 = 0
       ·rw [if_pos c57] at H
        have c57b0 : (t314 == 0) = true := beq_iff_eq.mpr c57
        have c57b1 : (t314 != 0) = false := bne_eq_false_iff_eq.mpr c57
        clear c57
        replace H := Option.bind_eq_some_iff.mp H
        obtain ⟨⟨t316, t319, t322⟩, A580, H⟩ := H
        replace H : (if t322 = 0 then ((tens_Same.f kj19 t316 t319 l0_0 l0_1).bind fun t324 => (some t324)) else (none)) = some r := H
        have A58 := Aside0.mk A580
        clear A580
        by_cases c59 : t322 = 0
        ·rw [if_pos c59] at H
         have c59b0 : (t322 == 0) = true := beq_iff_eq.mpr c59
         have c59b1 : (t322 != 0) = false := bne_eq_false_iff_eq.mpr c59
         clear c59
         replace H := Option.bind_eq_some_iff.mp H
         obtain ⟨t324, A600, H⟩ := H
         replace H : (some t324) = some r := H
         have A60 := Aside0.mk A600
         clear A600
         obtain rfl := Option.some.inj H
         have hnb61 := NB283_293.out
         have hnc61 := NB293_283.out
         have hcz62_0 := zx_ (v := .slice A0_0 l0_0.length c0_0) BK283 0
         have hcz62_1 := zx_ (v := .slice A0_1 l0_1.length c0_1) BK283 1
         have hfz62_0 := blk_frozen BK283.out 0
         have hfz62_1 := blk_frozen BK283.out 1
         go_wp2_with (first | ((with_reducible refine gate_callee (f := 20) rfl ?_); refine zg_ (some 72) Try.func20 #[.agg #[.slice A0_0 l0_0.length c0_0, .slice A0_1 l0_1.length c0_1], .slice A2 l2.length c2] (h := ?_); (with_reducible refine (tens_Reshape.calls kj19 _ _ l0_0 _ _ l0_1 _ _ l2 t308 t311 t314 _ ?side1 ?side2 ?side3 ?side4 ?side5 ?side6 A56.out).mono ?_); (case side1 => exact zk_ (Kd.C_below HR0_0.out HB.out)); (case side2 => exact HC0_0.out); (case side3 => exact zk_ (Kd.C_below HR0_1.out HB.out)); (case side4 => exact HC0_1.out); (case side5 => exact zk_ (Kd.C_below HR2.out HB.out)); (case side6 => exact HC2.out); rintro e w63 ⟨v309, v312, rfl, ho0, ho1, hb⟩; refine ⟨_, rfl, ?_⟩; have n0_ := Aside0.mk (Kd.R_elder' (zr_ HO_294000.out) (Kd.R_base ho0) hb); have n1_ := Aside0.mk (Kd.R_elder' (zr_ HO_294001.out) (Kd.R_base ho1) hb); have n2_ := Aside0.mk (Kd.R_lower (Kd.R_new' ho0 (Kd.R_lt (zr_ HO_294000.out))) (below_size (zw2_ HB GE283 GE293))); have n3_ := Aside0.mk (Kd.R_lower (Kd.R_new' ho1 (Kd.R_lt (zr_ HO_294001.out))) (below_size (zw2_ HB GE283 GE293))); have n4_ := Aside0.mk (zl_ BK283 hb); have n5_ := Aside0.mk (zl_ BK293 hb); have n6_ := Aside0.mk (below_step (zw2_ HB GE283 GE293) hb); clear HO_294000 HO_294001 BK283 BK293 HB; have HO_294000 := n0_; have HO_294001 := n1_; have HO310 := n2_; have HO313 := n3_; have BK283 := n4_; have BK293 := n5_; have HB := n6_; clear n0_ n1_ n2_ n3_ n4_ n5_ n6_; (try clear hb); (try clear hb2); (try clear hk); (try clear hi); (try clear ho0); (try clear ho1)) | ((with_reducible refine gate_dst (N := 13) rfl ?_); (try (refine gate_guard (by rfl) ?_; dsimp only)); refine box_event ?hg (N := 13) ?hd (cs := #[.slice none 0 0, .slice none 0 0]) (t := 27) ?hr ?_; (case hd => rfl); (case hg => rfl); (case hr => first | (go_simp; done) | (go_simp; rfl)); intro gb315 hg w64 hbox hb; have n0_ := Aside0.mk (Kd.R_below (zr_ HO_294000.out) hb); have n1_ := Aside0.mk (Kd.R_below (zr_ HO_294001.out) hb); have n2_ := Aside0.mk (Kd.R_below (zr_ HO310.out) hb); have n3_ := Aside0.mk (Kd.R_below (zr_ HO313.out) hb); have n4_ := Aside0.mk (zl_ BK283 hb); have n5_ := Aside0.mk (zl_ BK293 hb); have n6_ := Aside0.mk (below_step (zw2_ HB GE283 GE293) hb); have n7_ := Aside0.mk (hbox); have n8_ := Aside0.mk (zs_ hg (zw2_ HB GE283 GE293)); have n9_ := Aside0.mk (zs_ hg (zw2_ HB GE283 GE293)); have n10_ := Aside0.mk (zn_ hg BK283); have n11_ := Aside0.mk (zm_ hg BK283); have n12_ := Aside0.mk (zn_ hg BK293); have n13_ := Aside0.mk (zm_ hg BK293); clear HO_294000 HO_294001 HO310 HO313 BK283 BK293 HB; have HO_294000 := n0_; have HO_294001 := n1_; have HO310 := n2_; have HO313 := n3_; have BK283 := n4_; have BK293 := n5_; have HB := n6_; have BK315 := n7_; have GW315 := n8_; have GE315 := n9_; have NB283_315 := n10_; have NB315_283 := n11_; have NB293_315 := n12_; have NB315_293 := n13_; clear n0_ n1_ n2_ n3_ n4_ n5_ n6_ n7_ n8_ n9_ n10_ n11_ n12_ n13_; clear hb hbox hg; obtain ⟨Ao65, co65, eo65⟩ := Kd.R_slice HO310.out; subst eo65; have hnb66 := NB315_283.out; have hnc66 := NB283_315.out; have hnb67 := NB315_293.out; have hnc67 := NB293_315.out; have hcz68_0 := zx_ (v := .slice none 0 0) BK315 0; have hcz68_1 := zx_ (v := .slice none 0 0) BK315 1; have hfz68_0 := blk_frozen BK315.out 0; have hfz68_1 := blk_frozen BK315.out 1; obtain ⟨Ao69, co69, eo69⟩ := Kd.R_slice HO313.out; subst eo69; have hcz70_0 := zx_ (v := .slice A0_0 l0_0.length c0_0) BK283 0; have hcz70_1 := zx_ (v := .slice A0_1 l0_1.length c0_1) BK283 1; have hfz70_0 := blk_frozen BK283.out 0; have hfz70_1 := blk_frozen BK283.out 1) | ((with_reducible refine gate_callee (f := 20) rfl ?_); refine zg_ (some 81) Try.func20 #[.agg #[.slice Ao65 t308.length co65, .slice Ao69 t311.length co69], .slice A0_0 l0_0.length c0_0] (h := ?_); (with_reducible refine (tens_Reshape.calls kj19 _ _ t308 _ _ t311 _ _ l0_0 t316 t319 t322 _ ?side1 ?side2 ?side3 ?side4 ?side5 ?side6 A58.out).mono ?_); (case side1 => refine (Kd.R_reads' (e := 3) (base := w.heap.size) (ok := fun k_ => (True ∧ some k_ ≠ (u294000 : Value).ownBlock)) (n := t308.length) (c := co65) ?_).2.2; exact (zr_ ((Kd.R_mono (Kd.R_far (p := ⟨gb315, 1, none⟩) (Kd.R_far (p := ⟨gb315, 0, none⟩) (Kd.R_types HO310.out BK315.out (by decide)) (fun _ hk => hk.2) (.slice Ao65 t308.length co65)) (fun _ hk => hk.2) (.slice Ao69 t311.length co69)) (fun _ h_ => h_.1))))); (case side2 => exact (Kd.R_reads' HO310.out).2.1); (case side3 => refine (Kd.R_reads' (e := 23) (base := w.heap.size) (ok := fun k_ => (True ∧ some k_ ≠ (.slice Ao27 t289.length co27 : Value).ownBlock)) (n := t311.length) (c := co69) ?_).2.2; exact (zr_ ((Kd.R_mono (Kd.R_far (p := ⟨gb315, 1, none⟩) (Kd.R_far (p := ⟨gb315, 0, none⟩) (Kd.R_types HO313.out BK315.out (by decide)) (fun _ hk => hk.2) (.slice Ao65 t308.length co65)) (fun _ hk => hk.2) (.slice Ao69 t311.length co69)) (fun _ h_ => h_.1))))); (case side4 => exact (Kd.R_reads' HO313.out).2.1); (case side5 => exact Kd.C_below HR0_0.out (zw3_ HB GE283 GE293 GE315)); (case side6 => exact HC0_0.out); rintro e w71 ⟨v317, v320, rfl, ho0, ho1, hb⟩; refine ⟨_, rfl, ?_⟩; have n0_ := Aside0.mk (Kd.R_elder' (zr_ ((Kd.R_mono (Kd.R_far (p := ⟨gb315, 1, none⟩) (Kd.R_far (p := ⟨gb315, 0, none⟩) (Kd.R_types HO_294000.out BK315.out (by decide)) (fun _ hk => hk.2) (.slice Ao65 t308.length co65)) (fun _ hk => hk.2) (.slice Ao69 t311.length co69)) (fun _ h_ => h_.1)))) (Kd.R_base ho0) hb); have n1_ := Aside0.mk (Kd.R_elder' (zr_ ((Kd.R_mono (Kd.R_far (p := ⟨gb315, 1, none⟩) (Kd.R_far (p := ⟨gb315, 0, none⟩) (Kd.R_types HO_294001.out BK315.out (by decide)) (fun _ hk => hk.2) (.slice Ao65 t308.length co65)) (fun _ hk => hk.2) (.slice Ao69 t311.length co69)) (fun _ h_ => h_.1)))) (Kd.R_base ho1) hb); have n2_ := Aside0.mk (Kd.R_elder' (zr_ ((Kd.R_mono (Kd.R_far (p := ⟨gb315, 1, none⟩) (Kd.R_far (p := ⟨gb315, 0, none⟩) (Kd.R_types HO310.out BK315.out (by decide)) (fun _ hk => hk.2) (.slice Ao65 t308.length co65)) (fun _ hk => hk.2) (.slice Ao69 t311.length co69)) (fun _ h_ => h_.1)))) (Kd.R_base ho0) hb); have n3_ := Aside0.mk (Kd.R_elder' (zr_ ((Kd.R_mono (Kd.R_far (p := ⟨gb315, 1, none⟩) (Kd.R_far (p := ⟨gb315, 0, none⟩) (Kd.R_types HO313.out BK315.out (by decide)) (fun _ hk => hk.2) (.slice Ao65 t308.length co65)) (fun _ hk => hk.2) (.slice Ao69 t311.length co69)) (fun _ h_ => h_.1)))) (Kd.R_base ho1) hb); have n4_ := Aside0.mk (Kd.R_lower (Kd.R_new' (Kd.R_new' ho0 (Kd.R_lt (zr_ ((Kd.R_mono (Kd.R_far (p := ⟨gb315, 1, none⟩) (Kd.R_far (p := ⟨gb315, 0, none⟩) (Kd.R_types HO_294000.out BK315.out (by decide)) (fun _ hk => hk.2) (.slice Ao65 t308.length co65)) (fun _ hk => hk.2) (.slice Ao69 t311.length co69)) (fun _ h_ => h_.1)))))) (Kd.R_lt (zr_ ((Kd.R_mono (Kd.R_far (p := ⟨gb315, 1, none⟩) (Kd.R_far (p := ⟨gb315, 0, none⟩) (Kd.R_types HO310.out BK315.out (by decide)) (fun _ hk => hk.2) (.slice Ao65 t308.length co65)) (fun _ hk => hk.2) (.slice Ao69 t311.length co69)) (fun _ h_ => h_.1)))))) (below_size (zw3_ HB GE283 GE293 GE315))); have n5_ := Aside0.mk (Kd.R_lower (Kd.R_new' (Kd.R_new' ho1 (Kd.R_lt (zr_ ((Kd.R_mono (Kd.R_far (p := ⟨gb315, 1, none⟩) (Kd.R_far (p := ⟨gb315, 0, none⟩) (Kd.R_types HO_294001.out BK315.out (by decide)) (fun _ hk => hk.2) (.slice Ao65 t308.length co65)) (fun _ hk => hk.2) (.slice Ao69 t311.length co69)) (fun _ h_ => h_.1)))))) (Kd.R_lt (zr_ ((Kd.R_mono (Kd.R_far (p := ⟨gb315, 1, none⟩) (Kd.R_far (p := ⟨gb315, 0, none⟩) (Kd.R_types HO313.out BK315.out (by decide)) (fun _ hk => hk.2) (.slice Ao65 t308.length co65)) (fun _ hk => hk.2) (.slice Ao69 t311.length co69)) (fun _ h_ => h_.1)))))) (below_size (zw3_ HB GE283 GE293 GE315))); have n6_ := Aside0.mk (blk_below (g := gb283) (o := .cells #[.slice A0_0 l0_0.length c0_0, .slice A0_1 l0_1.length c0_1] 27 (0, 0)) (by (with_reducible repeat (first | refine blk_drewN ?_ _ | refine blk_drew ?_ | refine blk_alloc ?_ _)); refine blk_far ?_ NB283_315.out _; (with_reducible repeat (first | refine blk_drewN ?_ _ | refine blk_drew ?_ | refine blk_alloc ?_ _)); refine blk_far ?_ NB283_315.out _; (with_reducible repeat (first | refine blk_drewN ?_ _ | refine blk_drew ?_ | refine blk_alloc ?_ _)); exact BK283.out) hb); have n7_ := Aside0.mk (blk_below (g := gb293) (o := .cells #[u294000, .slice Ao27 t289.length co27] 27 (0, 0)) (by (with_reducible repeat (first | refine blk_drewN ?_ _ | refine blk_drew ?_ | refine blk_alloc ?_ _)); refine blk_far ?_ NB293_315.out _; (with_reducible repeat (first | refine blk_drewN ?_ _ | refine blk_drew ?_ | refine blk_alloc ?_ _)); refine blk_far ?_ NB293_315.out _; (with_reducible repeat (first | refine blk_drewN ?_ _ | refine blk_drew ?_ | refine blk_alloc ?_ _)); exact BK293.out) hb); have n8_ := Aside0.mk (blk_below (g := gb315) (o := .cells #[.slice Ao65 t308.length co65, .slice Ao69 t311.length co69] 27 (0, 0)) (by (with_reducible repeat (first | refine blk_drewN ?_ _ | refine blk_drew ?_ | refine blk_alloc ?_ _)); refine blk_put (cs := #[.slice Ao65 t308.length co65, .slice none 0 0]) ?_ 1 _ rfl; (with_reducible repeat (first | refine blk_drewN ?_ _ | refine blk_drew ?_ | refine blk_alloc ?_ _)); refine blk_put (cs := #[.slice none 0 0, .slice none 0 0]) ?_ 0 _ rfl; (with_reducible repeat (first | refine blk_drewN ?_ _ | refine blk_drew ?_ | refine blk_alloc ?_ _)); exact BK315.out) hb); have n9_ := Aside0.mk (below_step (zw3_ HB GE283 GE293 GE315) hb); clear HO_294000 HO_294001 HO310 HO313 BK283 BK293 BK315 HB; have HO_294000 := n0_; have HO_294001 := n1_; have HO310 := n2_; have HO313 := n3_; have HO318 := n4_; have HO321 := n5_; have BK283 := n6_; have BK293 := n7_; have BK315 := n8_; have HB := n9_; clear n0_ n1_ n2_ n3_ n4_ n5_ n6_ n7_ n8_ n9_; (try clear hb); (try clear hb2); (try clear hk); (try clear hi); (try clear ho0); (try clear ho1)) | ((with_reducible refine gate_dst (N := 15) rfl ?_); (try (refine gate_guard (by rfl) ?_; dsimp only)); refine box_event ?hg (N := 15) ?hd (cs := #[.slice none 0 0, .slice none 0 0]) (t := 27) ?hr ?_; (case hd => rfl); (case hg => rfl); (case hr => first | (go_simp; done) | (go_simp; rfl)); intro gb323 hg w72 hbox hb; have n0_ := Aside0.mk (Kd.R_below (zr_ HO_294000.out) hb); have n1_ := Aside0.mk (Kd.R_below (zr_ HO_294001.out) hb); have n2_ := Aside0.mk (Kd.R_below (zr_ HO310.out) hb); have n3_ := Aside0.mk (Kd.R_below (zr_ HO313.out) hb); have n4_ := Aside0.mk (Kd.R_below (zr_ HO318.out) hb); have n5_ := Aside0.mk (Kd.R_below (zr_ HO321.out) hb); have n6_ := Aside0.mk (zl_ BK283 hb); have n7_ := Aside0.mk (zl_ BK293 hb); have n8_ := Aside0.mk (zl_ BK315 hb); have n9_ := Aside0.mk (below_step (zw3_ HB GE283 GE293 GE315) hb); have n10_ := Aside0.mk (hbox); have n11_ := Aside0.mk (zs_ hg (zw3_ HB GE283 GE293 GE315)); have n12_ := Aside0.mk (zs_ hg (zw3_ HB GE283 GE293 GE315)); have n13_ := Aside0.mk (zn_ hg BK283); have n14_ := Aside0.mk (zm_ hg BK283); have n15_ := Aside0.mk (zn_ hg BK293); have n16_ := Aside0.mk (zm_ hg BK293); have n17_ := Aside0.mk (zn_ hg BK315); have n18_ := Aside0.mk (zm_ hg BK315); clear HO_294000 HO_294001 HO310 HO313 HO318 HO321 BK283 BK293 BK315 HB; have HO_294000 := n0_; have HO_294001 := n1_; have HO310 := n2_; have HO313 := n3_; have HO318 := n4_; have HO321 := n5_; have BK283 := n6_; have BK293 := n7_; have BK315 := n8_; have HB := n9_; have BK323 := n10_; have GW323 := n11_; have GE323 := n12_; have NB283_323 := n13_; have NB323_283 := n14_; have NB293_323 := n15_; have NB323_293 := n16_; have NB315_323 := n17_; have NB323_315 := n18_; clear n0_ n1_ n2_ n3_ n4_ n5_ n6_ n7_ n8_ n9_ n10_ n11_ n12_ n13_ n14_ n15_ n16_ n17_ n18_; clear hb hbox hg; obtain ⟨Ao73, co73, eo73⟩ := Kd.R_slice HO318.out; subst eo73; have hnb74 := NB323_283.out; have hnc74 := NB283_323.out; have hnb75 := NB323_293.out; have hnc75 := NB293_323.out; have hnb76 := NB323_315.out; have hnc76 := NB315_323.out; have hcz77_0 := zx_ (v := .slice none 0 0) BK323 0; have hcz77_1 := zx_ (v := .slice none 0 0) BK323 1; have hfz77_0 := blk_frozen BK323.out 0; have hfz77_1 := blk_frozen BK323.out 1; obtain ⟨Ao78, co78, eo78⟩ := Kd.R_slice HO321.out; subst eo78; have hcz79_0 := zx_ (v := .slice A0_0 l0_0.length c0_0) BK283 0; have hcz79_1 := zx_ (v := .slice A0_1 l0_1.length c0_1) BK283 1; have hfz79_0 := blk_frozen BK283.out 0; have hfz79_1 := blk_frozen BK283.out 1) | (go_at_call 21; (with_reducible refine (tens_Same.calls kj19 _ _ t316 _ _ t319 _ _ l0_0 _ _ l0_1 t324 _ ?side1 ?side2 ?side3 ?side4 ?side5 ?side6 ?side7 ?side8 A60.out).mono ?_); (case side1 => refine (Kd.R_reads' (e := 3) (base := w.heap.size) (ok := fun k_ => ((True ∧ some k_ ≠ (u294000 : Value).ownBlock) ∧ some k_ ≠ (.slice Ao65 t308.length co65 : Value).ownBlock)) (n := t316.length) (c := co73) ?_).2.2; exact (zr_ ((Kd.R_mono (Kd.R_far (p := ⟨gb323, 1, none⟩) (Kd.R_far (p := ⟨gb323, 0, none⟩) (Kd.R_types HO318.out BK323.out (by decide)) (fun _ hk => hk.2) (.slice Ao73 t316.length co73)) (fun _ hk => hk.2) (.slice Ao78 t319.length co78)) (fun _ h_ => h_.1))))); (case side2 => exact (Kd.R_reads' HO318.out).2.1); (case side3 => refine (Kd.R_reads' (e := 23) (base := w.heap.size) (ok := fun k_ => ((True ∧ some k_ ≠ (.slice Ao27 t289.length co27 : Value).ownBlock) ∧ some k_ ≠ (.slice Ao69 t311.length co69 : Value).ownBlock)) (n := t319.length) (c := co78) ?_).2.2; exact (zr_ ((Kd.R_mono (Kd.R_far (p := ⟨gb323, 1, none⟩) (Kd.R_far (p := ⟨gb323, 0, none⟩) (Kd.R_types HO321.out BK323.out (by decide)) (fun _ hk => hk.2) (.slice Ao73 t316.length co73)) (fun _ hk => hk.2) (.slice Ao78 t319.length co78)) (fun _ h_ => h_.1))))); (case side4 => exact (Kd.R_reads' HO321.out).2.1); (case side5 => exact Kd.C_below HR0_0.out (zw4_ HB GE283 GE293 GE315 GE323)); (case side6 => exact HC0_0.out); (case side7 => exact Kd.C_below HR0_1.out (zw4_ HB GE283 GE293 GE315 GE323)); (case side8 => exact HC0_1.out); rintro e w80 ⟨rfl, hb⟩; have n0_ := Aside0.mk (Kd.R_below (zr_ ((Kd.R_mono (Kd.R_far (p := ⟨gb323, 1, none⟩) (Kd.R_far (p := ⟨gb323, 0, none⟩) (Kd.R_types HO_294000.out BK323.out (by decide)) (fun _ hk => hk.2) (.slice Ao73 t316.length co73)) (fun _ hk => hk.2) (.slice Ao78 t319.length co78)) (fun _ h_ => h_.1)))) hb); have n1_ := Aside0.mk (Kd.R_below (zr_ ((Kd.R_mono (Kd.R_far (p := ⟨gb323, 1, none⟩) (Kd.R_far (p := ⟨gb323, 0, none⟩) (Kd.R_types HO_294001.out BK323.out (by decide)) (fun _ hk => hk.2) (.slice Ao73 t316.length co73)) (fun _ hk => hk.2) (.slice Ao78 t319.length co78)) (fun _ h_ => h_.1)))) hb); have n2_ := Aside0.mk (Kd.R_below (zr_ ((Kd.R_mono (Kd.R_far (p := ⟨gb323, 1, none⟩) (Kd.R_far (p := ⟨gb323, 0, none⟩) (Kd.R_types HO310.out BK323.out (by decide)) (fun _ hk => hk.2) (.slice Ao73 t316.length co73)) (fun _ hk => hk.2) (.slice Ao78 t319.length co78)) (fun _ h_ => h_.1)))) hb); have n3_ := Aside0.mk (Kd.R_below (zr_ ((Kd.R_mono (Kd.R_far (p := ⟨gb323, 1, none⟩) (Kd.R_far (p := ⟨gb323, 0, none⟩) (Kd.R_types HO313.out BK323.out (by decide)) (fun _ hk => hk.2) (.slice Ao73 t316.length co73)) (fun _ hk => hk.2) (.slice Ao78 t319.length co78)) (fun _ h_ => h_.1)))) hb); have n4_ := Aside0.mk (Kd.R_below (zr_ ((Kd.R_mono (Kd.R_far (p := ⟨gb323, 1, none⟩) (Kd.R_far (p := ⟨gb323, 0, none⟩) (Kd.R_types HO318.out BK323.out (by decide)) (fun _ hk => hk.2) (.slice Ao73 t316.length co73)) (fun _ hk => hk.2) (.slice Ao78 t319.length co78)) (fun _ h_ => h_.1)))) hb); have n5_ := Aside0.mk (Kd.R_below (zr_ ((Kd.R_mono (Kd.R_far (p := ⟨gb323, 1, none⟩) (Kd.R_far (p := ⟨gb323, 0, none⟩) (Kd.R_types HO321.out BK323.out (by decide)) (fun _ hk => hk.2) (.slice Ao73 t316.length co73)) (fun _ hk => hk.2) (.slice Ao78 t319.length co78)) (fun _ h_ => h_.1)))) hb); have n6_ := Aside0.mk (blk_below (g := gb283) (o := .cells #[.slice A0_0 l0_0.length c0_0, .slice A0_1 l0_1.length c0_1] 27 (0, 0)) (by (with_reducible repeat (first | refine blk_drewN ?_ _ | refine blk_drew ?_ | refine blk_alloc ?_ _)); refine blk_far ?_ NB283_323.out _; (with_reducible repeat (first | refine blk_drewN ?_ _ | refine blk_drew ?_ | refine blk_alloc ?_ _)); refine blk_far ?_ NB283_323.out _; (with_reducible repeat (first | refine blk_drewN ?_ _ | refine blk_drew ?_ | refine blk_alloc ?_ _)); exact BK283.out) hb); have n7_ := Aside0.mk (blk_below (g := gb293) (o := .cells #[u294000, .slice Ao27 t289.length co27] 27 (0, 0)) (by (with_reducible repeat (first | refine blk_drewN ?_ _ | refine blk_drew ?_ | refine blk_alloc ?_ _)); refine blk_far ?_ NB293_323.out _; (with_reducible repeat (first | refine blk_drewN ?_ _ | refine blk_drew ?_ | refine blk_alloc ?_ _)); refine blk_far ?_ NB293_323.out _; (with_reducible repeat (first | refine blk_drewN ?_ _ | refine blk_drew ?_ | refine blk_alloc ?_ _)); exact BK293.out) hb); have n8_ := Aside0.mk (blk_below (g := gb315) (o := .cells #[.slice Ao65 t308.length co65, .slice Ao69 t311.length co69] 27 (0, 0)) (by (with_reducible repeat (first | refine blk_drewN ?_ _ | refine blk_drew ?_ | refine blk_alloc ?_ _)); refine blk_far ?_ NB315_323.out _; (with_reducible repeat (first | refine blk_drewN ?_ _ | refine blk_drew ?_ | refine blk_alloc ?_ _)); refine blk_far ?_ NB315_323.out _; (with_reducible repeat (first | refine blk_drewN ?_ _ | refine blk_drew ?_ | refine blk_alloc ?_ _)); exact BK315.out) hb); have n9_ := Aside0.mk (blk_below (g := gb323) (o := .cells #[.slice Ao73 t316.length co73, .slice Ao78 t319.length co78] 27 (0, 0)) (by (with_reducible repeat (first | refine blk_drewN ?_ _ | refine blk_drew ?_ | refine blk_alloc ?_ _)); refine blk_put (cs := #[.slice Ao73 t316.length co73, .slice none 0 0]) ?_ 1 _ rfl; (with_reducible repeat (first | refine blk_drewN ?_ _ | refine blk_drew ?_ | refine blk_alloc ?_ _)); refine blk_put (cs := #[.slice none 0 0, .slice none 0 0]) ?_ 0 _ rfl; (with_reducible repeat (first | refine blk_drewN ?_ _ | refine blk_drew ?_ | refine blk_alloc ?_ _)); exact BK323.out) hb); have n10_ := Aside0.mk (below_step (zw4_ HB GE283 GE293 GE315 GE323) hb); clear HO_294000 HO_294001 HO310 HO313 HO318 HO321 BK283 BK293 BK315 BK323 HB; have HO_294000 := n0_; have HO_294001 := n1_; have HO310 := n2_; have HO313 := n3_; have HO318 := n4_; have HO321 := n5_; have BK283 := n6_; have BK293 := n7_; have BK315 := n8_; have BK323 := n9_; have HB := n10_; clear n0_ n1_ n2_ n3_ n4_ n5_ n6_ n7_ n8_ n9_ n10_; (try clear hb); (try clear hb2); (try clear hk); (try clear hi)))
         go_ret
         exact ⟨by first | rfl | (simp [errW_none, errW_some] <;> rfl) | (simp [*, errW_none, errW_some] <;> rfl), zw4_ HB GE283 GE293 GE315 GE323⟩
        ·rw [if_neg c59] at H
         exact absurd H (by simp)
       ·rw [if_neg c57] at H
        have c57b0 : (t314 == 0) = false := beq_eq_false_iff_ne.mpr c57
        have c57b1 : (t314 != 0) = true := bne_iff_ne.mpr c57
        obtain rfl := Option.some.inj H
        have hnb81 := NB283_293.out
        have hnc81 := NB293_283.out
        have hcz82_0 := zx_ (v := .slice A0_0 l0_0.length c0_0) BK283 0
        have hcz82_1 := zx_ (v := .slice A0_1 l0_1.length c0_1) BK283 1
        have hfz82_0 := blk_frozen BK283.out 0
        have hfz82_1 := blk_frozen BK283.out 1
        go_wp2_with (first | ((with_reducible refine gate_callee (f := 20) rfl ?_); refine zg_ (some 72) Try.func20 #[.agg #[.slice A0_0 l0_0.length c0_0, .slice A0_1 l0_1.length c0_1], .slice A2 l2.length c2] (h := ?_); (with_reducible refine (tens_Reshape.calls kj19 _ _ l0_0 _ _ l0_1 _ _ l2 t308 t311 t314 _ ?side1 ?side2 ?side3 ?side4 ?side5 ?side6 A56.out).mono ?_); (case side1 => exact zk_ (Kd.C_below HR0_0.out HB.out)); (case side2 => exact HC0_0.out); (case side3 => exact zk_ (Kd.C_below HR0_1.out HB.out)); (case side4 => exact HC0_1.out); (case side5 => exact zk_ (Kd.C_below HR2.out HB.out)); (case side6 => exact HC2.out); rintro e w83 ⟨v309, v312, rfl, ho0, ho1, hb⟩; refine ⟨_, rfl, ?_⟩; have n0_ := Aside0.mk (Kd.R_elder' (zr_ HO_294000.out) (Kd.R_base ho0) hb); have n1_ := Aside0.mk (Kd.R_elder' (zr_ HO_294001.out) (Kd.R_base ho1) hb); have n2_ := Aside0.mk (Kd.R_lower (Kd.R_new' ho0 (Kd.R_lt (zr_ HO_294000.out))) (below_size (zw2_ HB GE283 GE293))); have n3_ := Aside0.mk (Kd.R_lower (Kd.R_new' ho1 (Kd.R_lt (zr_ HO_294001.out))) (below_size (zw2_ HB GE283 GE293))); have n4_ := Aside0.mk (zl_ BK283 hb); have n5_ := Aside0.mk (zl_ BK293 hb); have n6_ := Aside0.mk (below_step (zw2_ HB GE283 GE293) hb); clear HO_294000 HO_294001 BK283 BK293 HB; have HO_294000 := n0_; have HO_294001 := n1_; have HO310 := n2_; have HO313 := n3_; have BK283 := n4_; have BK293 := n5_; have HB := n6_; clear n0_ n1_ n2_ n3_ n4_ n5_ n6_; (try clear hb); (try clear hb2); (try clear hk); (try clear hi); (try clear ho0); (try clear ho1)) | ((with_reducible refine gate_dst (N := 13) rfl ?_); (try (refine gate_guard (by rfl) ?_; dsimp only)); refine box_event ?hg (N := 13) ?hd (cs := #[.slice none 0 0, .slice none 0 0]) (t := 27) ?hr ?_; (case hd => rfl); (case hg => rfl); (case hr => first | (go_simp; done) | (go_simp; rfl)); intro gb315 hg w84 hbox hb; have n0_ := Aside0.mk (Kd.R_below (zr_ HO_294000.out) hb); have n1_ := Aside0.mk (Kd.R_below (zr_ HO_294001.out) hb); have n2_ := Aside0.mk (Kd.R_below (zr_ HO310.out) hb); have n3_ := Aside0.mk (Kd.R_below (zr_ HO313.out) hb); have n4_ := Aside0.mk (zl_ BK283 hb); have n5_ := Aside0.mk (zl_ BK293 hb); have n6_ := Aside0.mk (below_step (zw2_ HB GE283 GE293) hb); have n7_ := Aside0.mk (hbox); have n8_ := Aside0.mk (zs_ hg (zw2_ HB GE283 GE293)); have n9_ := Aside0.mk (zs_ hg (zw2_ HB GE283 GE293)); have n10_ := Aside0.mk (zn_ hg BK283); have n11_ := Aside0.mk (zm_ hg BK283); have n12_ := Aside0.mk (zn_ hg BK293); have n13_ := Aside0.mk (zm_ hg BK293); clear HO_294000 HO_294001 HO310 HO313 BK283 BK293 HB; have HO_294000 := n0_; have HO_294001 := n1_; have HO310 := n2_; have HO313 := n3_; have BK283 := n4_; have BK293 := n5_; have HB := n6_; have BK315 := n7_; have GW315 := n8_; have GE315 := n9_; have NB283_315 := n10_; have NB315_283 := n11_; have NB293_315 := n12_; have NB315_293 := n13_; clear n0_ n1_ n2_ n3_ n4_ n5_ n6_ n7_ n8_ n9_ n10_ n11_ n12_ n13_; clear hb hbox hg; obtain ⟨Ao85, co85, eo85⟩ := Kd.R_slice HO310.out; subst eo85; have hnb86 := NB315_283.out; have hnc86 := NB283_315.out; have hnb87 := NB315_293.out; have hnc87 := NB293_315.out; have hcz88_0 := zx_ (v := .slice none 0 0) BK315 0; have hcz88_1 := zx_ (v := .slice none 0 0) BK315 1; have hfz88_0 := blk_frozen BK315.out 0; have hfz88_1 := blk_frozen BK315.out 1; obtain ⟨Ao89, co89, eo89⟩ := Kd.R_slice HO313.out; subst eo89))
        go_ret
        exact ⟨by first | rfl | (simp [errW_none, errW_some] <;> rfl) | (simp [*, errW_none, errW_some] <;> rfl), zw3_ HB GE283 GE293 GE315⟩
 ·replace c5 := Bool.eq_false_iff.mpr c5
  subst c5
  have H1 : (none) = some r := by rw [if_neg (show ¬ (false = true) by decide)] at H; exact H
  clear H
  have H := H1
  clear H1
  exact absurd H (by simp)

/-- THE ONE PURE STATEMENT of carousellaw6_TensBack. -/
def carousellaw6_TensBack.Pure : Prop := ∀ (l0_0 : List Int) (l0_1 : List Int) (l1 : List Int) (l2 : List Int), l0_0.length ≤ maxLen → (∀ x ∈ l0_0, (Lit.int .i64 x).wf = true) → l0_1.length ≤ maxLen → (∀ x ∈ l0_1, (Lit.int .i64 x).wf = true) → l1.length ≤ maxLen → (∀ x ∈ l1, (Lit.int .i64 x).wf = true) → l2.length ≤ maxLen → (∀ x ∈ l2, (Lit.int .i64 x).wf = true) → ∃ k, carousellaw6_TensBack.f k l0_0 l0_1 l1 l2 = some true

end Go.Proofs.Ytbdhabpplidgfaa.PTensBack
