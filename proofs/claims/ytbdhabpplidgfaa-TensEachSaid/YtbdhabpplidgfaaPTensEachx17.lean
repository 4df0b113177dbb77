/- The functions that the law TensEach reaches, as Lean functions, and that each call of the Go function does what its Lean function says, wherever that one answers. Written by a program of mine over the print of the kit; Lean checks it. -/
import Derived.Test.YtbdhabpplidgfaaPTensEachx0
import Derived.Test.YtbdhabpplidgfaaPTensEachx1
import Derived.Test.YtbdhabpplidgfaaPTensEachx2
import Derived.Test.YtbdhabpplidgfaaPTensEachx5
import Derived.Test.YtbdhabpplidgfaaPTensEachx6
import Derived.Test.YtbdhabpplidgfaaPTensEachx11
import Derived.Test.YtbdhabpplidgfaaPTensEachx16
namespace Go.Proofs.Ytbdhabpplidgfaa.PTensEach
open Go.RowKit Go.Proofs.YtbdhabpplidgfaaW.PrintWords Go.Proofs.YtbdhabpplidgfaaW.PrintLast Go.Proofs.YtbdhabpplidgfaaW.PrintMore
attribute [local go_sem] max2_int min2_int max_two min_two max_three min_three max_four min_four   -- for this text's walks alone
set_option linter.unusedVariables false
set_option linter.unusedSimpArgs false

/-! ### carousellaw6_TensEach: function 6 -/
def carousellaw6_TensEach.j0 : Nat → Bool → List Int → List Int → List Int → List Int → Option (Bool)
 | 0, _, _, _, _, _ => none
 | k + 1, x24, x512000, x512001, x513000, x513001 => if x24 = true then (some true) else ((tens_Add.f k x512000 x512001 x513000 x513001).bind fun bt516 => ((tens_Sub.f k x512000 x512001 x513000 x513001).bind fun bt524 => ((tens_Mul.f k x512000 x512001 x513000 x513001).bind fun bt532 => ((carouselref5_Each.f k 0 x512000 x512001 x513000 x513001).bind fun bt540 => ((carouselref5_Each.f k 1 x512000 x512001 x513000 x513001).bind fun bt548 => ((carouselref5_Each.f k 2 x512000 x512001 x513000 x513001).bind fun bt556 => (if bt516.2.2 = bt540.2.2 then (if bt524.2.2 = bt548.2.2 then (if bt532.2.2 = bt556.2.2 then ((carouselref5_Alike.f k bt516.1 bt516.2.1 bt540.1 bt540.2.1).bind fun t564 => (if t564 = true then ((carouselref5_Alike.f k bt524.1 bt524.2.1 bt548.1 bt548.2.1).bind fun t565 => (if t565 = true then ((carouselref5_Alike.f k bt532.1 bt532.2.1 bt556.1 bt556.2.1).bind fun t566 => (if t566 = true then ((tens_Good.f k x512000 x512001).bind fun t567 => ((carouselref5_Is.f k x512000 x512001).bind fun t568 => (if (t567 == t568) = true then ((tens_Same.f k x512000 x512001 x513000 x513001).bind fun t569 => ((carouselref5_Alike.f k x512000 x512001 x513000 x513001).bind fun t570 => (some (t569 == t570)))) else (none)))) else (none))) else (none))) else (none))) else (none)) else (none)) else (none))))))))
def carousellaw6_TensEach.f (k : Nat) (l0_0 : List Int) (l0_1 : List Int) (l1_0 : List Int) (l1_1 : List Int) : Option (Bool) := (carousellaw6_awake.f k).bind fun t513 => (if t513 = true then ((carousellaw6_great.f l0_0 l0_1 300).bind fun t514 => (if t514 = true then (carousellaw6_TensEach.j0 k true l0_0 l0_1 l1_0 l1_1) else ((carousellaw6_great.f l1_0 l1_1 300).bind fun t515 => (carousellaw6_TensEach.j0 k t515 l0_0 l0_1 l1_0 l1_1)))) else (none))
theorem carousellaw6_TensEach.mono_l : ∀ k, (∀ y0 y1 y2 y3 y4, LeO (carousellaw6_TensEach.j0 k y0 y1 y2 y3 y4) (carousellaw6_TensEach.j0 (k + 1) y0 y1 y2 y3 y4))
 | 0 => fun _ _ _ _ _ r h => by simp [carousellaw6_TensEach.j0] at h
 | k + 1 => by
  have ih0 := carousellaw6_TensEach.mono_l k
  ·intro y0 y1 y2 y3 y4
   unfold carousellaw6_TensEach.j0
   repeat' first
   | (with_reducible exact ih0 _ _ _ _ _)
   | (with_reducible exact carouselref5_Alike.mono _ _ _ _ _)
   | (with_reducible exact carouselref5_Each.mono _ _ _ _ _ _)
   | (with_reducible exact carouselref5_Is.mono _ _ _)
   | (with_reducible exact tens_Add.mono _ _ _ _ _)
   | (with_reducible exact tens_Good.mono _ _ _)
   | (with_reducible exact tens_Mul.mono _ _ _ _ _)
   | (with_reducible exact tens_Same.mono _ _ _ _ _)
   | (with_reducible exact tens_Sub.mono _ _ _ _ _)
   | (with_reducible exact LeO.refl _)
   | (with_reducible exact LeO.none _)
   | (with_reducible refine LeO.ite ?_ ?_)
   | (with_reducible refine LeO.bind ?_ (fun _ => ?_))
   | exact ih0 _ _ _ _ _
   | exact carouselref5_Alike.mono _ _ _ _ _
   | exact carouselref5_Each.mono _ _ _ _ _ _
   | exact carouselref5_Is.mono _ _ _
   | exact tens_Add.mono _ _ _ _ _
   | exact tens_Good.mono _ _ _
   | exact tens_Mul.mono _ _ _ _ _
   | exact tens_Same.mono _ _ _ _ _
   | exact tens_Sub.mono _ _ _ _ _
   | exact LeO.none _
   | refine LeO.ite ?_ ?_
   | refine LeO.bind ?_ (fun _ => ?_)
theorem carousellaw6_TensEach.mono : ∀ a0 a1 a2 a3 k, LeO (carousellaw6_TensEach.f k a0 a1 a2 a3) (carousellaw6_TensEach.f (k + 1) a0 a1 a2 a3) := by
 intro a0 a1 a2 a3 k
 have ih0 := carousellaw6_TensEach.mono_l k
 unfold carousellaw6_TensEach.f
 repeat' first
   | (with_reducible exact ih0 _ _ _ _ _)
   | (with_reducible exact carousellaw6_awake.mono _)
   | (with_reducible exact LeO.refl _)
   | (with_reducible exact LeO.none _)
   | (with_reducible refine LeO.ite ?_ ?_)
   | (with_reducible refine LeO.bind ?_ (fun _ => ?_))
   | exact ih0 _ _ _ _ _
   | exact carousellaw6_awake.mono _
   | exact LeO.none _
   | refine LeO.ite ?_ ?_
   | refine LeO.bind ?_ (fun _ => ?_)
def carousellaw6_TensEach.T11 : Bool × List (List Nat × List Nat) := (true, [([], []), ([], []), ([0, 1], [0, 1]), ([2], [2]), ([3], [3]), ([3], [3]), ([4, 5, 3], [3, 4, 5]), ([3, 6], [3, 6]), ([7, 3], [7]), ([8], [8]), ([8], [8]), ([9, 10, 8], [8, 9, 10]), ([8, 11], [8, 11]), ([12, 8], [12]), ([13], [13]), ([13], [13]), ([14, 15, 13, 13], [13, 14, 15]), ([13, 16], [13, 16]), ([17, 16], [17]), ([18], [18]), ([18], [18]), ([19, 20, 18, 18], [18, 19, 20]), ([18, 21], [18, 21]), ([22, 21], [22]), ([23], [23]), ([23], [23]), ([24, 25, 23, 23], [23, 24, 25]), ([23, 26], [23, 26]), ([27, 26], [27]), ([28], [28]), ([29, 28, 28], [28, 29]), ([28], [28]), ([31, 30, 28], [28, 31]), ([30, 32, 28], [28, 30, 32]), ([28, 33], [28, 33]), ([34, 32], [34]), ([35], [35]), ([35], [35]), ([36, 37, 35, 35], [35, 36, 37]), ([35], [35]), ([35], [35]), ([39, 40, 38, 35], [35, 39, 40]), ([38, 41, 35], [35, 38, 41]), ([35, 42], [35, 42]), ([43, 41, 0, 1, 2, 3, 4, 5, 6, 7, 8, 9, 10, 11, 12, 13, 14, 15, 16, 17, 18, 19, 20, 21, 22, 23, 24, 25, 26, 27, 28, 29, 30, 31, 32, 33, 34, 35, 36, 37, 38, 39, 40, 41, 42, 43], [43])])
def carousellaw6_TensEach.B11 : List Nat := [0, 0, 3, 7, 15, 15, 63, 127, 255, 511, 511, 2047, 4095, 8191, 16383, 16383, 65535, 131071, 262143, 524287, 524287, 2097151, 4194303, 8388607, 16777215, 16777215, 67108863, 134217727, 268435455, 536870911, 1073741823, 536870911, 4294967295, 8589934591, 17179869183, 34359738367, 68719476735, 68719476735, 274877906943, 68719476735, 68719476735, 2199023255551, 4398046511103, 8796093022207, 17592186044415]
theorem carousellaw6_TensEach.tab11 : rtab .any (opsOf Try.f6 11) = carousellaw6_TensEach.T11 := by kernel_rfl
theorem carousellaw6_TensEach.bits11 : waitsOk carousellaw6_TensEach.T11.2 carousellaw6_TensEach.B11 = true := by kernel_rfl
set_option maxHeartbeats 8000000 in
set_option maxRecDepth 100000 in
theorem carousellaw6_TensEach.calls (k : Nat) (A0_0 : Option Addr) (c0_0 : Nat) (l0_0 : List Int) (A0_1 : Option Addr) (c0_1 : Nat) (l0_1 : List Int) (A1_0 : Option Addr) (c1_0 : Nat) (l1_0 : List Int) (A1_1 : Option Addr) (c1_1 : Nat) (l1_1 : List Int) (r : Bool) (w : World) (hr0_0 : Kd.C (Kd.int .i64) w A0_0 l0_0.length l0_0) (hc0_0 : l0_0.length ≤ c0_0) (hr0_1 : Kd.C (Kd.int .i64) w A0_1 l0_1.length l0_1) (hc0_1 : l0_1.length ≤ c0_1) (hr1_0 : Kd.C (Kd.int .i64) w A1_0 l1_0.length l1_0) (hc1_0 : l1_0.length ≤ c1_0) (hr1_1 : Kd.C (Kd.int .i64) w A1_1 l1_1.length l1_1) (hc1_1 : l1_1.length ≤ c1_1) (h : carousellaw6_TensEach.f k l0_0 l0_1 l1_0 l1_1 = some r) :
  Calls Try.prog 6 #[.agg #[.slice A0_0 l0_0.length c0_0, .slice A0_1 l0_1.length c0_1], .agg #[.slice A1_0 l1_0.length c1_0, .slice A1_1 l1_1.length c1_1]] w fun e w' => e = .returned (.bool r) ∧ Below w.heap.size w w' := by
 have hu27 := Try.underlying27
 have HR0_0 := Aside0.mk hr0_0
 have HC0_0 := Aside0.mk hc0_0
 clear hr0_0 hc0_0
 have HR0_1 := Aside0.mk hr0_1
 have HC0_1 := Aside0.mk hc0_1
 clear hr0_1 hc0_1
 have HR1_0 := Aside0.mk hr1_0
 have HC1_0 := Aside0.mk hc1_0
 clear hr1_0 hc1_0
 have HR1_1 := Aside0.mk hr1_1
 have HC1_1 := Aside0.mk hc1_1
 clear hr1_1 hc1_1
 have HB := Aside0.mk (Below.refl w.heap.size w)
 have H : ((carousellaw6_awake.f k).bind fun t513 => (if t513 = true then ((carousellaw6_great.f l0_0 l0_1 300).bind fun t514 => (if t514 = true then (carousellaw6_TensEach.j0 k true l0_0 l0_1 l1_0 l1_1) else ((carousellaw6_great.f l1_0 l1_1 300).bind fun t515 => (carousellaw6_TensEach.j0 k t515 l0_0 l0_1 l1_0 l1_1)))) else (none))) = some r := h
 clear h
 replace H := Option.bind_eq_some_iff.mp H
 obtain ⟨t513, A30, H⟩ := H
 (try dsimp only at H)
 have A3 := Aside0.mk A30
 clear A30
 by_cases c4 : t513 = true
 ·subst c4
  have H1 := H
  rw [if_pos rfl] at H1
  clear H
  have H := H1
  clear H1
  have HC5 := Aside0.mk H
  clear H
  go_enter Try.func6, Try.ntmps6
  go_upto_region 3 with (first | ((with_reducible refine gate_dst (N := 2) rfl ?_); refine box_event ?hg (N := 2) ?hd (cs := #[.slice A0_0 l0_0.length c0_0, .slice A0_1 l0_1.length c0_1]) (t := 27) ?hr ?_; (case hd => rfl); (case hg => rfl); (case hr => first | (go_simp; done) | (go_simp; rfl)); intro gb511 hg w6 hbox hb; have n0_ := Aside0.mk (below_step (zw0_ HB) hb); have n1_ := Aside0.mk (hbox); have n2_ := Aside0.mk (zs_ hg (zw0_ HB)); have n3_ := Aside0.mk (zs_ hg (zw0_ HB)); clear HB; have HB := n0_; have BK511 := n1_; have GW511 := n2_; have GE511 := n3_; clear n0_ n1_ n2_ n3_; clear hb hbox hg) | ((with_reducible refine gate_dst (N := 3) rfl ?_); refine box_event ?hg (N := 3) ?hd (cs := #[.slice A1_0 l1_0.length c1_0, .slice A1_1 l1_1.length c1_1]) (t := 27) ?hr ?_; (case hd => rfl); (case hg => rfl); (case hr => first | (go_simp; done) | (go_simp; rfl)); intro gb512 hg w7 hbox hb; have n0_ := Aside0.mk (zl_ BK511 hb); have n1_ := Aside0.mk (below_step (zw1_ HB GE511) hb); have n2_ := Aside0.mk (hbox); have n3_ := Aside0.mk (zs_ hg (zw1_ HB GE511)); have n4_ := Aside0.mk (zs_ hg (zw1_ HB GE511)); have n5_ := Aside0.mk (zn_ hg BK511); have n6_ := Aside0.mk (zm_ hg BK511); clear BK511 HB; have BK511 := n0_; have HB := n1_; have BK512 := n2_; have GW512 := n3_; have GE512 := n4_; have NB511_512 := n5_; have NB512_511 := n6_; clear n0_ n1_ n2_ n3_ n4_ n5_ n6_; clear hb hbox hg) | ((with_reducible refine gate_callee (f := 11) rfl ?_); refine zg_ (some 17) Try.func11 #[] (h := ?_); (with_reducible refine (carousellaw6_awake.calls k  true _ A3.out).mono ?_); rintro e w8 ⟨rfl, hb⟩; refine ⟨_, rfl, ?_⟩; have n0_ := Aside0.mk (zl_ BK511 hb); have n1_ := Aside0.mk (zl_ BK512 hb); have n2_ := Aside0.mk (below_step (zw2_ HB GE511 GE512) hb); clear BK511 BK512 HB; have BK511 := n0_; have BK512 := n1_; have HB := n2_; clear n0_ n1_ n2_; (try clear hb); (try clear hb2); (try clear hk); (try clear hi)))
  (try simp only [Act.put, List.setIfInBounds_toArray, List.set_cons_zero, List.set_cons_succ])
  go_cut [24] (fun v24 wc => ∃ (kq : Nat) (x24_4 : Bool), v24 = .bool x24_4 ∧ Aside0 (carousellaw6_TensEach.j0 kq x24_4 l0_0 l0_1 l1_0 l1_1 = some r) ∧ Aside0 (kq ≤ k) ∧ Aside0 (wc.heap[gb511]? = some (.cells #[(.slice A0_0 l0_0.length c0_0), (.slice A0_1 l0_1.length c0_1)] 27 (0, 0))) ∧ Aside0 (wc.heap[gb512]? = some (.cells #[(.slice A1_0 l1_0.length c1_0), (.slice A1_1 l1_1.length c1_1)] 27 (0, 0))) ∧ Aside0 (Below w.heap.size w wc))
  case first =>
   have H := HC5.out
   clear HC5
   replace H := Option.bind_eq_some_iff.mp H
   obtain ⟨t514, A90, H⟩ := H
   (try dsimp only at H)
   have A9 := Aside0.mk A90
   clear A90
   by_cases c10 : t514 = true
   ·subst c10
    have H1 : (carousellaw6_TensEach.j0 k true l0_0 l0_1 l1_0 l1_1) = some r := by rw [if_pos rfl] at H; exact H
    clear H
    have H := H1
    clear H1
    have H' := Aside0.mk H
    clear H
    have hnb11 := NB511_512.out
    have hnc11 := NB512_511.out
    have hcz12_0 := zx_ (v := .slice A0_0 l0_0.length c0_0) BK511 0
    have hcz12_1 := zx_ (v := .slice A0_1 l0_1.length c0_1) BK511 1
    have hfz12_0 := blk_frozen BK511.out 0
    have hfz12_1 := blk_frozen BK511.out 1
    go_wp2_with (first | ((with_reducible refine gate_callee (f := 17) rfl ?_); refine zg_ (some 20) Try.func17 #[.agg #[.slice A0_0 l0_0.length c0_0, .slice A0_1 l0_1.length c0_1], .int .i64 300] (h := ?_); (with_reducible refine (carousellaw6_great.calls _ _ l0_0 _ _ l0_1 300 true _ ?side1 ?side2 ?side3 ?side4 A9.out).mono ?_); (case side1 => exact zk_ (Kd.C_below HR0_0.out HB.out)); (case side2 => exact HC0_0.out); (case side3 => exact zk_ (Kd.C_below HR0_1.out HB.out)); (case side4 => exact HC0_1.out); rintro e w13 ⟨rfl, hb⟩; refine ⟨_, rfl, ?_⟩; have n0_ := Aside0.mk (zl_ BK511 hb); have n1_ := Aside0.mk (zl_ BK512 hb); have n2_ := Aside0.mk (below_step (zw2_ HB GE511 GE512) hb); clear BK511 BK512 HB; have BK511 := n0_; have BK512 := n1_; have HB := n2_; clear n0_ n1_ n2_; (try clear hb); (try clear hb2); (try clear hk); (try clear hi)))
    go_meet
    case rel => exact ⟨_, (true), (by first | rfl | (simp; done) | (simp [*]; done)), H', ⟨by first | omega | exact Nat.le_refl _⟩, ⟨zb_ BK511⟩, ⟨zb_ BK512⟩, ⟨zw2_ HB GE511 GE512⟩⟩
   ·replace c10 := Bool.eq_false_iff.mpr c10
    subst c10
    have H1 := H
    rw [if_neg (show ¬ (false = true) by decide)] at H1
    clear H
    have H := H1
    clear H1
    replace H := Option.bind_eq_some_iff.mp H
    obtain ⟨t515, A140, H⟩ := H
    replace H : (carousellaw6_TensEach.j0 k t515 l0_0 l0_1 l1_0 l1_1) = some r := H
    have A14 := Aside0.mk A140
    clear A140
    have H' := Aside0.mk H
    clear H
    have hnb15 := NB511_512.out
    have hnc15 := NB512_511.out
    have hcz16_0 := zx_ (v := .slice A0_0 l0_0.length c0_0) BK511 0
    have hcz16_1 := zx_ (v := .slice A0_1 l0_1.length c0_1) BK511 1
    have hfz16_0 := blk_frozen BK511.out 0
    have hfz16_1 := blk_frozen BK511.out 1
    go_wp2_with (first | ((with_reducible refine gate_callee (f := 17) rfl ?_); refine zg_ (some 20) Try.func17 #[.agg #[.slice A0_0 l0_0.length c0_0, .slice A0_1 l0_1.length c0_1], .int .i64 300] (h := ?_); (with_reducible refine (carousellaw6_great.calls _ _ l0_0 _ _ l0_1 300 false _ ?side1 ?side2 ?side3 ?side4 A9.out).mono ?_); (case side1 => exact zk_ (Kd.C_below HR0_0.out HB.out)); (case side2 => exact HC0_0.out); (case side3 => exact zk_ (Kd.C_below HR0_1.out HB.out)); (case side4 => exact HC0_1.out); rintro e w17 ⟨rfl, hb⟩; refine ⟨_, rfl, ?_⟩; have n0_ := Aside0.mk (zl_ BK511 hb); have n1_ := Aside0.mk (zl_ BK512 hb); have n2_ := Aside0.mk (below_step (zw2_ HB GE511 GE512) hb); clear BK511 BK512 HB; have BK511 := n0_; have BK512 := n1_; have HB := n2_; clear n0_ n1_ n2_; (try clear hb); (try clear hb2); (try clear hk); (try clear hi); have hcz18_0 := zx_ (v := .slice A1_0 l1_0.length c1_0) BK512 0; have hcz18_1 := zx_ (v := .slice A1_1 l1_1.length c1_1) BK512 1; have hfz18_0 := blk_frozen BK512.out 0; have hfz18_1 := blk_frozen BK512.out 1) | (go_at_call 17; (with_reducible refine (carousellaw6_great.calls _ _ l1_0 _ _ l1_1 300 t515 _ ?side1 ?side2 ?side3 ?side4 A14.out).mono ?_); (case side1 => exact zk_ (Kd.C_below HR1_0.out HB.out)); (case side2 => exact HC1_0.out); (case side3 => exact zk_ (Kd.C_below HR1_1.out HB.out)); (case side4 => exact HC1_1.out); rintro e w19 ⟨rfl, hb⟩; have n0_ := Aside0.mk (zl_ BK511 hb); have n1_ := Aside0.mk (zl_ BK512 hb); have n2_ := Aside0.mk (below_step (zw2_ HB GE511 GE512) hb); clear BK511 BK512 HB; have BK511 := n0_; have BK512 := n1_; have HB := n2_; clear n0_ n1_ n2_; (try clear hb); (try clear hb2); (try clear hk); (try clear hi)))
    go_meet
    case rel => exact ⟨_, (t515), (by first | rfl | (simp; done) | (simp [*]; done)), H', ⟨by first | omega | exact Nat.le_refl _⟩, ⟨zb_ BK511⟩, ⟨zb_ BK512⟩, ⟨zw2_ HB GE511 GE512⟩⟩
  case rest =>
   clear HC5
   try clear c1
   try clear p2
   try clear c4
   try clear c6
   try clear c10
   try clear c11
   try clear c15
   try clear c17
   try clear hcz12_0
   try clear hcz12_1
   try clear hcz16_0
   try clear hcz16_1
   try clear hcz18_0
   try clear hcz18_1
   try clear hfz12_0
   try clear hfz12_1
   try clear hfz16_0
   try clear hfz16_1
   try clear hfz18_0
   try clear hfz18_1
   obtain ⟨kq, x24_4, rfl, HA, HJ4, BK511, BK512, HB⟩ := hcut
   cases kq with
   | zero => exact absurd HA.out (by simp [carousellaw6_TensEach.j0])
   | succ kj4 =>
    have H := HA.out
    clear HA
    simp only [carousellaw6_TensEach.j0] at H
    by_cases c20 : x24_4 = true
    ·subst c20
     have H1 : (some true) = some r := by rw [if_pos rfl] at H; exact H
     clear H
     have H := H1
     clear H1
     obtain rfl := Option.some.inj H
     go_wp2
     go_ret
     exact ⟨by first | rfl | (simp [errW_none, errW_some] <;> rfl) | (simp [*, errW_none, errW_some] <;> rfl), zw2_ HB GE511 GE512⟩
    ·replace c20 := Bool.eq_false_iff.mpr c20
     subst c20
     have H1 := H
     rw [if_neg (show ¬ (false = true) by decide)] at H1
     clear H
     have H := H1
     clear H1
     replace H := Option.bind_eq_some_iff.mp H
     obtain ⟨⟨t516, t519, t522⟩, A210, H⟩ := H
     (try dsimp only at H)
     have A21 := Aside0.mk A210
     clear A210
     replace H := Option.bind_eq_some_iff.mp H
     obtain ⟨⟨t524, t527, t530⟩, A220, H⟩ := H
     (try dsimp only at H)
     have A22 := Aside0.mk A220
     clear A220
     replace H := Option.bind_eq_some_iff.mp H
     obtain ⟨⟨t532, t535, t538⟩, A230, H⟩ := H
     (try dsimp only at H)
     have A23 := Aside0.mk A230
     clear A230
     replace H := Option.bind_eq_some_iff.mp H
     obtain ⟨⟨t540, t543, t546⟩, A240, H⟩ := H
     (try dsimp only at H)
     have A24 := Aside0.mk A240
     clear A240
     replace H := Option.bind_eq_some_iff.mp H
     obtain ⟨⟨t548, t551, t554⟩, A250, H⟩ := H
     (try dsimp only at H)
     have A25 := Aside0.mk A250
     clear A250
     replace H := Option.bind_eq_some_iff.mp H
     obtain ⟨⟨t556, t559, t562⟩, A260, H⟩ := H
     (try dsimp only at H)
     have A26 := Aside0.mk A260
     clear A260
     by_cases c27 : t522 = t546
     ·rw [if_pos c27] at H
      have c27b0 : (t522 == t546) = true := beq_iff_eq.mpr c27
      have c27b1 : (t522 != t546) = false := bne_eq_false_iff_eq.mpr c27
      clear c27
      by_cases c28 : t530 = t554
      ·rw [if_pos c28] at H
       have c28b0 : (t530 == t554) = true := beq_iff_eq.mpr c28
       have c28b1 : (t530 != t554) = false := bne_eq_false_iff_eq.mpr c28
       clear c28
       by_cases c29 : t538 = t562
       ·rw [if_pos c29] at H
        have c29b0 : (t538 == t562) = true := beq_iff_eq.mpr c29
        have c29b1 : (t538 != t562) = false := bne_eq_false_iff_eq.mpr c29
        clear c29
        replace H := Option.bind_eq_some_iff.mp H
        obtain ⟨t564, A300, H⟩ := H
        (try dsimp only at H)
        have A30 := Aside0.mk A300
        clear A300
        by_cases c31 : t564 = true
        ·subst c31
         have H1 := H
         rw [if_pos rfl] at H1
         clear H
         have H := H1
         clear H1
         replace H := Option.bind_eq_some_iff.mp H
         obtain ⟨t565, A320, H⟩ := H
         (try dsimp only at H)
         have A32 := Aside0.mk A320
         clear A320
         by_cases c33 : t565 = true
         ·subst c33
          have H1 := H
          rw [if_pos rfl] at H1
          clear H
          have H := H1
          clear H1
          replace H := Option.bind_eq_some_iff.mp H
          obtain ⟨t566, A340, H⟩ := H
          (try dsimp only at H)
          have A34 := Aside0.mk A340
          clear A340
          by_cases c35 : t566 = true
          ·subst c35
           have H1 := H
           rw [if_pos rfl] at H1
           clear H
           have H := H1
           clear H1
           replace H := Option.bind_eq_some_iff.mp H
           obtain ⟨t567, A360, H⟩ := H
           (try dsimp only at H)
           have A36 := Aside0.mk A360
           clear A360
           replace H := Option.bind_eq_some_iff.mp H
           obtain ⟨t568, A370, H⟩ := H
           (try dsimp only at H)
           have A37 := Aside0.mk A370
           clear A370
           by_cases c38 : (t567 == t568) = true
           ·rw [if_pos c38] at H
            have c38b0 : (t567 == t568) = true := c38
            (try (have c38b1 : decide (t567 = t568) = true := by simpa using c38))
            (try (have c38b2 : (t567 == t568) = true := by simpa using c38))
            clear c38
            replace H := Option.bind_eq_some_iff.mp H
            obtain ⟨t569, A390, H⟩ := H
            replace H : ((carouselref5_Alike.f kj4 l0_0 l0_1 l1_0 l1_1).bind fun t570 => (some (t569 == t570))) = some r := H
            have A39 := Aside0.mk A390
            clear A390
            replace H := Option.bind_eq_some_iff.mp H
            obtain ⟨t570, A400, H⟩ := H
            replace H : (some (t569 == t570)) = some r := H
            have A40 := Aside0.mk A400
            clear A400
            obtain rfl := Option.some.inj H
            have hnb41 := NB511_512.out
            have hnc41 := NB512_511.out
            have hcz42_0 := zx_ (v := .slice A0_0 l0_0.length c0_0) BK511 0
            have hcz42_1 := zx_ (v := .slice A0_1 l0_1.length c0_1) BK511 1
            have hfz42_0 := blk_frozen BK511.out 0
            have hfz42_1 := blk_frozen BK511.out 1
            have hcz43_0 := zx_ (v := .slice A1_0 l1_0.length c1_0) BK512 0
            have hcz43_1 := zx_ (v := .slice A1_1 l1_1.length c1_1) BK512 1
            have hfz43_0 := blk_frozen BK512.out 0
            have hfz43_1 := blk_frozen BK512.out 1
            try go_wp2_with (first | ((with_reducible refine gate_callee (f := 19) rfl ?_); refine zg_ (some 28) Try.func19 #[.agg #[.slice A0_0 l0_0.length c0_0, .slice A0_1 l0_1.length c0_1], .agg #[.slice A1_0 l1_0.length c1_0, .slice A1_1 l1_1.length c1_1]] (h := ?_); (with_reducible refine (tens_Add.calls kj4 _ _ l0_0 _ _ l0_1 _ _ l1_0 _ _ l1_1 t516 t519 t522 _ ?side1 ?side2 ?side3 ?side4 ?side5 ?side6 ?side7 ?side8 A21.out).mono ?_); (case side1 => exact zk_ (Kd.C_below HR0_0.out HB.out)); (case side2 => exact HC0_0.out); (case side3 => exact zk_ (Kd.C_below HR0_1.out HB.out)); (case side4 => exact HC0_1.out); (case side5 => exact zk_ (Kd.C_below HR1_0.out HB.out)); (case side6 => exact HC1_0.out); (case side7 => exact zk_ (Kd.C_below HR1_1.out HB.out)); (case side8 => exact HC1_1.out); rintro e w44 ⟨v517, v520, rfl, ho0, ho1, hb⟩; refine ⟨_, rfl, ?_⟩; have n0_ := Aside0.mk (Kd.R_lower ho0 (below_size (zw2_ HB GE511 GE512))); have n1_ := Aside0.mk (Kd.R_lower ho1 (below_size (zw2_ HB GE511 GE512))); have n2_ := Aside0.mk (zl_ BK511 hb); have n3_ := Aside0.mk (zl_ BK512 hb); have n4_ := Aside0.mk (below_step (zw2_ HB GE511 GE512) hb); clear BK511 BK512 HB; have HO518 := n0_; have HO521 := n1_; have BK511 := n2_; have BK512 := n3_; have HB := n4_; clear n0_ n1_ n2_ n3_ n4_; (try clear hb); (try clear hb2); (try clear hk); (try clear hi); (try clear ho0); (try clear ho1)) | ((with_reducible refine gate_dst (N := 5) rfl ?_); refine box_event ?hg (N := 5) ?hd (cs := #[.slice none 0 0, .slice none 0 0]) (t := 27) ?hr ?_; (case hd => rfl); (case hg => rfl); (case hr => first | (go_simp; done) | (go_simp; rfl)); intro gb523 hg w45 hbox hb; have n0_ := Aside0.mk (Kd.R_below (zr_ HO518.out) hb); have n1_ := Aside0.mk (Kd.R_below (zr_ HO521.out) hb); have n2_ := Aside0.mk (zl_ BK511 hb); have n3_ := Aside0.mk (zl_ BK512 hb); have n4_ := Aside0.mk (below_step (zw2_ HB GE511 GE512) hb); have n5_ := Aside0.mk (hbox); have n6_ := Aside0.mk (zs_ hg (zw2_ HB GE511 GE512)); have n7_ := Aside0.mk (zs_ hg (zw2_ HB GE511 GE512)); have n8_ := Aside0.mk (zn_ hg BK511); have n9_ := Aside0.mk (zm_ hg BK511); have n10_ := Aside0.mk (zn_ hg BK512); have n11_ := Aside0.mk (zm_ hg BK512); clear HO518 HO521 BK511 BK512 HB; have HO518 := n0_; have HO521 := n1_; have BK511 := n2_; have BK512 := n3_; have HB := n4_; have BK523 := n5_; have GW523 := n6_; have GE523 := n7_; have NB511_523 := n8_; have NB523_511 := n9_; have NB512_523 := n10_; have NB523_512 := n11_; clear n0_ n1_ n2_ n3_ n4_ n5_ n6_ n7_ n8_ n9_ n10_ n11_; clear hb hbox hg; obtain ⟨Ao46, co46, eo46⟩ := Kd.R_slice HO518.out; subst eo46; have hnb47 := NB523_511.out; have hnc47 := NB511_523.out; have hnb48 := NB523_512.out; have hnc48 := NB512_523.out; have hcz49_0 := zx_ (v := .slice none 0 0) BK523 0; have hcz49_1 := zx_ (v := .slice none 0 0) BK523 1; have hfz49_0 := blk_frozen BK523.out 0; have hfz49_1 := blk_frozen BK523.out 1; obtain ⟨Ao50, co50, eo50⟩ := Kd.R_slice HO521.out; subst eo50; have hcz51_0 := zx_ (v := .slice A0_0 l0_0.length c0_0) BK511 0; have hcz51_1 := zx_ (v := .slice A0_1 l0_1.length c0_1) BK511 1; have hfz51_0 := blk_frozen BK511.out 0; have hfz51_1 := blk_frozen BK511.out 1; have hcz52_0 := zx_ (v := .slice A1_0 l1_0.length c1_0) BK512 0; have hcz52_1 := zx_ (v := .slice A1_1 l1_1.length c1_1) BK512 1; have hfz52_0 := blk_frozen BK512.out 0; have hfz52_1 := blk_frozen BK512.out 1) | ((with_reducible refine gate_callee (f := 23) rfl ?_); refine zg_ (some 34) Try.func23 #[.agg #[.slice A0_0 l0_0.length c0_0, .slice A0_1 l0_1.length c0_1], .agg #[.slice A1_0 l1_0.length c1_0, .slice A1_1 l1_1.length c1_1]] (h := ?_); (with_reducible refine (tens_Sub.calls kj4 _ _ l0_0 _ _ l0_1 _ _ l1_0 _ _ l1_1 t524 t527 t530 _ ?side1 ?side2 ?side3 ?side4 ?side5 ?side6 ?side7 ?side8 A22.out).mono ?_); (case side1 => exact Kd.C_below HR0_0.out (zw3_ HB GE511 GE512 GE523)); (case side2 => exact HC0_0.out); (case side3 => exact Kd.C_below HR0_1.out (zw3_ HB GE511 GE512 GE523)); (case side4 => exact HC0_1.out); (case side5 => exact Kd.C_below HR1_0.out (zw3_ HB GE511 GE512 GE523)); (case side6 => exact HC1_0.out); (case side7 => exact Kd.C_below HR1_1.out (zw3_ HB GE511 GE512 GE523)); (case side8 => exact HC1_1.out); rintro e w53 ⟨v525, v528, rfl, ho0, ho1, hb⟩; refine ⟨_, rfl, ?_⟩; have n0_ := Aside0.mk (Kd.R_elder' (zr_ ((Kd.R_mono (Kd.R_far (p := ⟨gb523, 1, none⟩) (Kd.R_far (p := ⟨gb523, 0, none⟩) (Kd.R_types HO518.out BK523.out (by decide)) (fun _ hk => hk.2) (.slice Ao46 t516.length co46)) (fun _ hk => hk.2) (.slice Ao50 t519.length co50)) (fun _ h_ => h_.1)))) (Kd.R_base ho0) hb); have n1_ := Aside0.mk (Kd.R_elder' (zr_ ((Kd.R_mono (Kd.R_far (p := ⟨gb523, 1, none⟩) (Kd.R_far (p := ⟨gb523, 0, none⟩) (Kd.R_types HO521.out BK523.out (by decide)) (fun _ hk => hk.2) (.slice Ao46 t516.length co46)) (fun _ hk => hk.2) (.slice Ao50 t519.length co50)) (fun _ h_ => h_.1)))) (Kd.R_base ho1) hb); have n2_ := Aside0.mk (Kd.R_lower (Kd.R_new' ho0 (Kd.R_lt (zr_ ((Kd.R_mono (Kd.R_far (p := ⟨gb523, 1, none⟩) (Kd.R_far (p := ⟨gb523, 0, none⟩) (Kd.R_types HO518.out BK523.out (by decide)) (fun _ hk => hk.2) (.slice Ao46 t516.length co46)) (fun _ hk => hk.2) (.slice Ao50 t519.length co50)) (fun _ h_ => h_.1)))))) (below_size (zw3_ HB GE511 GE512 GE523))); have n3_ := Aside0.mk (Kd.R_lower (Kd.R_new' ho1 (Kd.R_lt (zr_ ((Kd.R_mono (Kd.R_far (p := ⟨gb523, 1, none⟩) (Kd.R_far (p := ⟨gb523, 0, none⟩) (Kd.R_types HO521.out BK523.out (by decide)) (fun _ hk => hk.2) (.slice Ao46 t516.length co46)) (fun _ hk => hk.2) (.slice Ao50 t519.length co50)) (fun _ h_ => h_.1)))))) (below_size (zw3_ HB GE511 GE512 GE523))); have n4_ := Aside0.mk (blk_below (g := gb511) (o := .cells #[.slice A0_0 l0_0.length c0_0, .slice A0_1 l0_1.length c0_1] 27 (0, 0)) (by (with_reducible repeat (first | refine blk_drewN ?_ _ | refine blk_drew ?_ | refine blk_alloc ?_ _)); refine blk_far ?_ NB511_523.out _; (with_reducible repeat (first | refine blk_drewN ?_ _ | refine blk_drew ?_ | refine blk_alloc ?_ _)); refine blk_far ?_ NB511_523.out _; (with_reducible repeat (first | refine blk_drewN ?_ _ | refine blk_drew ?_ | refine blk_alloc ?_ _)); exact BK511.out) hb); have n5_ := Aside0.mk (blk_below (g := gb512) (o := .cells #[.slice A1_0 l1_0.length c1_0, .slice A1_1 l1_1.length c1_1] 27 (0, 0)) (by (with_reducible repeat (first | refine blk_drewN ?_ _ | refine blk_drew ?_ | refine blk_alloc ?_ _)); refine blk_far ?_ NB512_523.out _; (with_reducible repeat (first | refine blk_drewN ?_ _ | refine blk_drew ?_ | refine blk_alloc ?_ _)); refine blk_far ?_ NB512_523.out _; (with_reducible repeat (first | refine blk_drewN ?_ _ | refine blk_drew ?_ | refine blk_alloc ?_ _)); exact BK512.out) hb); have n6_ := Aside0.mk (blk_below (g := gb523) (o := .cells #[.slice Ao46 t516.length co46, .slice Ao50 t519.length co50] 27 (0, 0)) (by (with_reducible repeat (first | refine blk_drewN ?_ _ | refine blk_drew ?_ | refine blk_alloc ?_ _)); refine blk_put (cs := #[.slice Ao46 t516.length co46, .slice none 0 0]) ?_ 1 _ rfl; (with_reducible repeat (first | refine blk_drewN ?_ _ | refine blk_drew ?_ | refine blk_alloc ?_ _)); refine blk_put (cs := #[.slice none 0 0, .slice none 0 0]) ?_ 0 _ rfl; (with_reducible repeat (first | refine blk_drewN ?_ _ | refine blk_drew ?_ | refine blk_alloc ?_ _)); exact BK523.out) hb); have n7_ := Aside0.mk (below_step (zw3_ HB GE511 GE512 GE523) hb); clear HO518 HO521 BK511 BK512 BK523 HB; have HO518 := n0_; have HO521 := n1_; have HO526 := n2_; have HO529 := n3_; have BK511 := n4_; have BK512 := n5_; have BK523 := n6_; have HB := n7_; clear n0_ n1_ n2_ n3_ n4_ n5_ n6_ n7_; (try clear hb); (try clear hb2); (try clear hk); (try clear hi); (try clear ho0); (try clear ho1)) | ((with_reducible refine gate_dst (N := 7) rfl ?_); refine box_event ?hg (N := 7) ?hd (cs := #[.slice none 0 0, .slice none 0 0]) (t := 27) ?hr ?_; (case hd => rfl); (case hg => rfl); (case hr => first | (go_simp; done) | (go_simp; rfl)); intro gb531 hg w54 hbox hb; have n0_ := Aside0.mk (Kd.R_below (zr_ HO518.out) hb); have n1_ := Aside0.mk (Kd.R_below (zr_ HO521.out) hb); have n2_ := Aside0.mk (Kd.R_below (zr_ HO526.out) hb); have n3_ := Aside0.mk (Kd.R_below (zr_ HO529.out) hb); have n4_ := Aside0.mk (zl_ BK511 hb); have n5_ := Aside0.mk (zl_ BK512 hb); have n6_ := Aside0.mk (zl_ BK523 hb); have n7_ := Aside0.mk (below_step (zw3_ HB GE511 GE512 GE523) hb); have n8_ := Aside0.mk (hbox); have n9_ := Aside0.mk (zs_ hg (zw3_ HB GE511 GE512 GE523)); have n10_ := Aside0.mk (zs_ hg (zw3_ HB GE511 GE512 GE523)); have n11_ := Aside0.mk (zn_ hg BK511); have n12_ := Aside0.mk (zm_ hg BK511); have n13_ := Aside0.mk (zn_ hg BK512); have n14_ := Aside0.mk (zm_ hg BK512); have n15_ := Aside0.mk (zn_ hg BK523); have n16_ := Aside0.mk (zm_ hg BK523); clear HO518 HO521 HO526 HO529 BK511 BK512 BK523 HB; have HO518 := n0_; have HO521 := n1_; have HO526 := n2_; have HO529 := n3_; have BK511 := n4_; have BK512 := n5_; have BK523 := n6_; have HB := n7_; have BK531 := n8_; have GW531 := n9_; have GE531 := n10_; have NB511_531 := n11_; have NB531_511 := n12_; have NB512_531 := n13_; have NB531_512 := n14_; have NB523_531 := n15_; have NB531_523 := n16_; clear n0_ n1_ n2_ n3_ n4_ n5_ n6_ n7_ n8_ n9_ n10_ n11_ n12_ n13_ n14_ n15_ n16_; clear hb hbox hg; obtain ⟨Ao55, co55, eo55⟩ := Kd.R_slice HO526.out; subst eo55; have hnb56 := NB531_511.out; have hnc56 := NB511_531.out; have hnb57 := NB531_512.out; have hnc57 := NB512_531.out; have hnb58 := NB531_523.out; have hnc58 := NB523_531.out; have hcz59_0 := zx_ (v := .slice none 0 0) BK531 0; have hcz59_1 := zx_ (v := .slice none 0 0) BK531 1; have hfz59_0 := blk_frozen BK531.out 0; have hfz59_1 := blk_frozen BK531.out 1; obtain ⟨Ao60, co60, eo60⟩ := Kd.R_slice HO529.out; subst eo60; have hcz61_0 := zx_ (v := .slice A0_0 l0_0.length c0_0) BK511 0; have hcz61_1 := zx_ (v := .slice A0_1 l0_1.length c0_1) BK511 1; have hfz61_0 := blk_frozen BK511.out 0; have hfz61_1 := blk_frozen BK511.out 1; have hcz62_0 := zx_ (v := .slice A1_0 l1_0.length c1_0) BK512 0; have hcz62_1 := zx_ (v := .slice A1_1 l1_1.length c1_1) BK512 1; have hfz62_0 := blk_frozen BK512.out 0; have hfz62_1 := blk_frozen BK512.out 1) | ((with_reducible refine gate_callee (f := 22) rfl ?_); refine zg_ (some 40) Try.func22 #[.agg #[.slice A0_0 l0_0.length c0_0, .slice A0_1 l0_1.length c0_1], .agg #[.slice A1_0 l1_0.length c1_0, .slice A1_1 l1_1.length c1_1]] (h := ?_); (with_reducible refine (tens_Mul.calls kj4 _ _ l0_0 _ _ l0_1 _ _ l1_0 _ _ l1_1 t532 t535 t538 _ ?side1 ?side2 ?side3 ?side4 ?side5 ?side6 ?side7 ?side8 A23.out).mono ?_); (case side1 => exact Kd.C_below HR0_0.out (zw4_ HB GE511 GE512 GE523 GE531)); (case side2 => exact HC0_0.out); (case side3 => exact Kd.C_below HR0_1.out (zw4_ HB GE511 GE512 GE523 GE531)); (case side4 => exact HC0_1.out); (case side5 => exact Kd.C_below HR1_0.out (zw4_ HB GE511 GE512 GE523 GE531)); (case side6 => exact HC1_0.out); (case side7 => exact Kd.C_below HR1_1.out (zw4_ HB GE511 GE512 GE523 GE531)); (case side8 => exact HC1_1.out); rintro e w63 ⟨v533, v536, rfl, ho0, ho1, hb⟩; refine ⟨_, rfl, ?_⟩; have n0_ := Aside0.mk (Kd.R_elder' (zr_ ((Kd.R_mono (Kd.R_far (p := ⟨gb531, 1, none⟩) (Kd.R_far (p := ⟨gb531, 0, none⟩) (Kd.R_types HO518.out BK531.out (by decide)) (fun _ hk => hk.2) (.slice Ao55 t524.length co55)) (fun _ hk => hk.2) (.slice Ao60 t527.length co60)) (fun _ h_ => h_.1)))) (Kd.R_base ho0) hb); have n1_ := Aside0.mk (Kd.R_elder' (zr_ ((Kd.R_mono (Kd.R_far (p := ⟨gb531, 1, none⟩) (Kd.R_far (p := ⟨gb531, 0, none⟩) (Kd.R_types HO521.out BK531.out (by decide)) (fun _ hk => hk.2) (.slice Ao55 t524.length co55)) (fun _ hk => hk.2) (.slice Ao60 t527.length co60)) (fun _ h_ => h_.1)))) (Kd.R_base ho1) hb); have n2_ := Aside0.mk (Kd.R_elder' (zr_ ((Kd.R_mono (Kd.R_far (p := ⟨gb531, 1, none⟩) (Kd.R_far (p := ⟨gb531, 0, none⟩) (Kd.R_types HO526.out BK531.out (by decide)) (fun _ hk => hk.2) (.slice Ao55 t524.length co55)) (fun _ hk => hk.2) (.slice Ao60 t527.length co60)) (fun _ h_ => h_.1)))) (Kd.R_base ho0) hb); have n3_ := Aside0.mk (Kd.R_elder' (zr_ ((Kd.R_mono (Kd.R_far (p := ⟨gb531, 1, none⟩) (Kd.R_far (p := ⟨gb531, 0, none⟩) (Kd.R_types HO529.out BK531.out (by decide)) (fun _ hk => hk.2) (.slice Ao55 t524.length co55)) (fun _ hk => hk.2) (.slice Ao60 t527.length co60)) (fun _ h_ => h_.1)))) (Kd.R_base ho1) hb); have n4_ := Aside0.mk (Kd.R_lower (Kd.R_new' (Kd.R_new' ho0 (Kd.R_lt (zr_ ((Kd.R_mono (Kd.R_far (p := ⟨gb531, 1, none⟩) (Kd.R_far (p := ⟨gb531, 0, none⟩) (Kd.R_types HO518.out BK531.out (by decide)) (fun _ hk => hk.2) (.slice Ao55 t524.length co55)) (fun _ hk => hk.2) (.slice Ao60 t527.length co60)) (fun _ h_ => h_.1)))))) (Kd.R_lt (zr_ ((Kd.R_mono (Kd.R_far (p := ⟨gb531, 1, none⟩) (Kd.R_far (p := ⟨gb531, 0, none⟩) (Kd.R_types HO526.out BK531.out (by decide)) (fun _ hk => hk.2) (.slice Ao55 t524.length co55)) (fun _ hk => hk.2) (.slice Ao60 t527.length co60)) (fun _ h_ => h_.1)))))) (below_size (zw4_ HB GE511 GE512 GE523 GE531))); have n5_ := Aside0.mk (Kd.R_lower (Kd.R_new' (Kd.R_new' ho1 (Kd.R_lt (zr_ ((Kd.R_mono (Kd.R_far (p := ⟨gb531, 1, none⟩) (Kd.R_far (p := ⟨gb531, 0, none⟩) (Kd.R_types HO521.out BK531.out (by decide)) (fun _ hk => hk.2) (.slice Ao55 t524.length co55)) (fun _ hk => hk.2) (.slice Ao60 t527.length co60)) (fun _ h_ => h_.1)))))) (Kd.R_lt (zr_ ((Kd.R_mono (Kd.R_far (p := ⟨gb531, 1, none⟩) (Kd.R_far (p := ⟨gb531, 0, none⟩) (Kd.R_types HO529.out BK531.out (by decide)) (fun _ hk => hk.2) (.slice Ao55 t524.length co55)) (fun _ hk => hk.2) (.slice Ao60 t527.length co60)) (fun _ h_ => h_.1)))))) (below_size (zw4_ HB GE511 GE512 GE523 GE531))); have n6_ := Aside0.mk (blk_below (g := gb511) (o := .cells #[.slice A0_0 l0_0.length c0_0, .slice A0_1 l0_1.length c0_1] 27 (0, 0)) (by (with_reducible repeat (first | refine blk_drewN ?_ _ | refine blk_drew ?_ | refine blk_alloc ?_ _)); refine blk_far ?_ NB511_531.out _; (with_reducible repeat (first | refine blk_drewN ?_ _ | refine blk_drew ?_ | refine blk_alloc ?_ _)); refine blk_far ?_ NB511_531.out _; (with_reducible repeat (first | refine blk_drewN ?_ _ | refine blk_drew ?_ | refine blk_alloc ?_ _)); exact BK511.out) hb); have n7_ := Aside0.mk (blk_below (g := gb512) (o := .cells #[.slice A1_0 l1_0.length c1_0, .slice A1_1 l1_1.length c1_1] 27 (0, 0)) (by (with_reducible repeat (first | refine blk_drewN ?_ _ | refine blk_drew ?_ | refine blk_alloc ?_ _)); refine blk_far ?_ NB512_531.out _; (with_reducible repeat (first | refine blk_drewN ?_ _ | refine blk_drew ?_ | refine blk_alloc ?_ _)); refine blk_far ?_ NB512_531.out _; (with_reducible repeat (first | refine blk_drewN ?_ _ | refine blk_drew ?_ | refine blk_alloc ?_ _)); exact BK512.out) hb); have n8_ := Aside0.mk (blk_below (g := gb523) (o := .cells #[.slice Ao46 t516.length co46, .slice Ao50 t519.length co50] 27 (0, 0)) (by (with_reducible repeat (first | refine blk_drewN ?_ _ | refine blk_drew ?_ | refine blk_alloc ?_ _)); refine blk_far ?_ NB523_531.out _; (with_reducible repeat (first | refine blk_drewN ?_ _ | refine blk_drew ?_ | refine blk_alloc ?_ _)); refine blk_far ?_ NB523_531.out _; (with_reducible repeat (first | refine blk_drewN ?_ _ | refine blk_drew ?_ | refine blk_alloc ?_ _)); exact BK523.out) hb); have n9_ := Aside0.mk (blk_below (g := gb531) (o := .cells #[.slice Ao55 t524.length co55, .slice Ao60 t527.length co60] 27 (0, 0)) (by (with_reducible repeat (first | refine blk_drewN ?_ _ | refine blk_drew ?_ | refine blk_alloc ?_ _)); refine blk_put (cs := #[.slice Ao55 t524.length co55, .slice none 0 0]) ?_ 1 _ rfl; (with_reducible repeat (first | refine blk_drewN ?_ _ | refine blk_drew ?_ | refine blk_alloc ?_ _)); refine blk_put (cs := #[.slice none 0 0, .slice none 0 0]) ?_ 0 _ rfl; (with_reducible repeat (first | refine blk_drewN ?_ _ | refine blk_drew ?_ | refine blk_alloc ?_ _)); exact BK531.out) hb); have n10_ := Aside0.mk (below_step (zw4_ HB GE511 GE512 GE523 GE531) hb); clear HO518 HO521 HO526 HO529 BK511 BK512 BK523 BK531 HB; have HO518 := n0_; have HO521 := n1_; have HO526 := n2_; have HO529 := n3_; have HO534 := n4_; have HO537 := n5_; have BK511 := n6_; have BK512 := n7_; have BK523 := n8_; have BK531 := n9_; have HB := n10_; clear n0_ n1_ n2_ n3_ n4_ n5_ n6_ n7_ n8_ n9_ n10_; (try clear hb); (try clear hb2); (try clear hk); (try clear hi); (try clear ho0); (try clear ho1)) | ((with_reducible refine gate_dst (N := 9) rfl ?_); refine box_event ?hg (N := 9) ?hd (cs := #[.slice none 0 0, .slice none 0 0]) (t := 27) ?hr ?_; (case hd => rfl); (case hg => rfl); (case hr => first | (go_simp; done) | (go_simp; rfl)); intro gb539 hg w64 hbox hb; have n0_ := Aside0.mk (Kd.R_below (zr_ HO518.out) hb); have n1_ := Aside0.mk (Kd.R_below (zr_ HO521.out) hb); have n2_ := Aside0.mk (Kd.R_below (zr_ HO526.out) hb); have n3_ := Aside0.mk (Kd.R_below (zr_ HO529.out) hb); have n4_ := Aside0.mk (Kd.R_below (zr_ HO534.out) hb); have n5_ := Aside0.mk (Kd.R_below (zr_ HO537.out) hb); have n6_ := Aside0.mk (zl_ BK511 hb); have n7_ := Aside0.mk (zl_ BK512 hb); have n8_ := Aside0.mk (zl_ BK523 hb); have n9_ := Aside0.mk (zl_ BK531 hb); have n10_ := Aside0.mk (below_step (zw4_ HB GE511 GE512 GE523 GE531) hb); have n11_ := Aside0.mk (hbox); have n12_ := Aside0.mk (zs_ hg (zw4_ HB GE511 GE512 GE523 GE531)); have n13_ := Aside0.mk (zs_ hg (zw4_ HB GE511 GE512 GE523 GE531)); have n14_ := Aside0.mk (zn_ hg BK511); have n15_ := Aside0.mk (zm_ hg BK511); have n16_ := Aside0.mk (zn_ hg BK512); have n17_ := Aside0.mk (zm_ hg BK512); have n18_ := Aside0.mk (zn_ hg BK523); have n19_ := Aside0.mk (zm_ hg BK523); have n20_ := Aside0.mk (zn_ hg BK531); have n21_ := Aside0.mk (zm_ hg BK531); clear HO518 HO521 HO526 HO529 HO534 HO537 BK511 BK512 BK523 BK531 HB; have HO518 := n0_; have HO521 := n1_; have HO526 := n2_; have HO529 := n3_; have HO534 := n4_; have HO537 := n5_; have BK511 := n6_; have BK512 := n7_; have BK523 := n8_; have BK531 := n9_; have HB := n10_; have BK539 := n11_; have GW539 := n12_; have GE539 := n13_; have NB511_539 := n14_; have NB539_511 := n15_; have NB512_539 := n16_; have NB539_512 := n17_; have NB523_539 := n18_; have NB539_523 := n19_; have NB531_539 := n20_; have NB539_531 := n21_; clear n0_ n1_ n2_ n3_ n4_ n5_ n6_ n7_ n8_ n9_ n10_ n11_ n12_ n13_ n14_ n15_ n16_ n17_ n18_ n19_ n20_ n21_; clear hb hbox hg; obtain ⟨Ao65, co65, eo65⟩ := Kd.R_slice HO534.out; subst eo65; have hnb66 := NB539_511.out; have hnc66 := NB511_539.out; have hnb67 := NB539_512.out; have hnc67 := NB512_539.out; have hnb68 := NB539_523.out; have hnc68 := NB523_539.out; have hnb69 := NB539_531.out; have hnc69 := NB531_539.out; have hcz70_0 := zx_ (v := .slice none 0 0) BK539 0; have hcz70_1 := zx_ (v := .slice none 0 0) BK539 1; have hfz70_0 := blk_frozen BK539.out 0; have hfz70_1 := blk_frozen BK539.out 1; obtain ⟨Ao71, co71, eo71⟩ := Kd.R_slice HO537.out; subst eo71; have hcz72_0 := zx_ (v := .slice A0_0 l0_0.length c0_0) BK511 0; have hcz72_1 := zx_ (v := .slice A0_1 l0_1.length c0_1) BK511 1; have hfz72_0 := blk_frozen BK511.out 0; have hfz72_1 := blk_frozen BK511.out 1; have hcz73_0 := zx_ (v := .slice A1_0 l1_0.length c1_0) BK512 0; have hcz73_1 := zx_ (v := .slice A1_1 l1_1.length c1_1) BK512 1; have hfz73_0 := blk_frozen BK512.out 0; have hfz73_1 := blk_frozen BK512.out 1) | ((with_reducible refine gate_callee (f := 24) rfl ?_); refine zg_ (some 46) Try.func24 #[.int .i64 0, .agg #[.slice A0_0 l0_0.length c0_0, .slice A0_1 l0_1.length c0_1], .agg #[.slice A1_0 l1_0.length c1_0, .slice A1_1 l1_1.length c1_1]] (h := ?_); (with_reducible refine (carouselref5_Each.calls kj4 0 _ _ l0_0 _ _ l0_1 _ _ l1_0 _ _ l1_1 t540 t543 t546 _ ?side1 ?side2 ?side3 ?side4 ?side5 ?side6 ?side7 ?side8 A24.out).mono ?_); (case side1 => exact Kd.C_below HR0_0.out (zw5_ HB GE511 GE512 GE523 GE531 GE539)); (case side2 => exact HC0_0.out); (case side3 => exact Kd.C_below HR0_1.out (zw5_ HB GE511 GE512 GE523 GE531 GE539)); (case side4 => exact HC0_1.out); (case side5 => exact Kd.C_below HR1_0.out (zw5_ HB GE511 GE512 GE523 GE531 GE539)); (case side6 => exact HC1_0.out); (case side7 => exact Kd.C_below HR1_1.out (zw5_ HB GE511 GE512 GE523 GE531 GE539)); (case side8 => exact HC1_1.out); rintro e w74 ⟨v541, v544, rfl, ho0, ho1, hb⟩; refine ⟨_, rfl, ?_⟩; have n0_ := Aside0.mk (Kd.R_elder' (zr_ ((Kd.R_mono (Kd.R_far (p := ⟨gb539, 1, none⟩) (Kd.R_far (p := ⟨gb539, 0, none⟩) (Kd.R_types HO518.out BK539.out (by decide)) (fun _ hk => hk.2) (.slice Ao65 t532.length co65)) (fun _ hk => hk.2) (.slice Ao71 t535.length co71)) (fun _ h_ => h_.1)))) (Kd.R_base ho0) hb); have n1_ := Aside0.mk (Kd.R_elder' (zr_ ((Kd.R_mono (Kd.R_far (p := ⟨gb539, 1, none⟩) (Kd.R_far (p := ⟨gb539, 0, none⟩) (Kd.R_types HO521.out BK539.out (by decide)) (fun _ hk => hk.2) (.slice Ao65 t532.length co65)) (fun _ hk => hk.2) (.slice Ao71 t535.length co71)) (fun _ h_ => h_.1)))) (Kd.R_base ho1) hb); have n2_ := Aside0.mk (Kd.R_elder' (zr_ ((Kd.R_mono (Kd.R_far (p := ⟨gb539, 1, none⟩) (Kd.R_far (p := ⟨gb539, 0, none⟩) (Kd.R_types HO526.out BK539.out (by decide)) (fun _ hk => hk.2) (.slice Ao65 t532.length co65)) (fun _ hk => hk.2) (.slice Ao71 t535.length co71)) (fun _ h_ => h_.1)))) (Kd.R_base ho0) hb); have n3_ := Aside0.mk (Kd.R_elder' (zr_ ((Kd.R_mono (Kd.R_far (p := ⟨gb539, 1, none⟩) (Kd.R_far (p := ⟨gb539, 0, none⟩) (Kd.R_types HO529.out BK539.out (by decide)) (fun _ hk => hk.2) (.slice Ao65 t532.length co65)) (fun _ hk => hk.2) (.slice Ao71 t535.length co71)) (fun _ h_ => h_.1)))) (Kd.R_base ho1) hb); have n4_ := Aside0.mk (Kd.R_elder' (zr_ ((Kd.R_mono (Kd.R_far (p := ⟨gb539, 1, none⟩) (Kd.R_far (p := ⟨gb539, 0, none⟩) (Kd.R_types HO534.out BK539.out (by decide)) (fun _ hk => hk.2) (.slice Ao65 t532.length co65)) (fun _ hk => hk.2) (.slice Ao71 t535.length co71)) (fun _ h_ => h_.1)))) (Kd.R_base ho0) hb); have n5_ := Aside0.mk (Kd.R_elder' (zr_ ((Kd.R_mono (Kd.R_far (p := ⟨gb539, 1, none⟩) (Kd.R_far (p := ⟨gb539, 0, none⟩) (Kd.R_types HO537.out BK539.out (by decide)) (fun _ hk => hk.2) (.slice Ao65 t532.length co65)) (fun _ hk => hk.2) (.slice Ao71 t535.length co71)) (fun _ h_ => h_.1)))) (Kd.R_base ho1) hb); have n6_ := Aside0.mk (Kd.R_lower (Kd.R_new' (Kd.R_new' (Kd.R_new' ho0 (Kd.R_lt (zr_ ((Kd.R_mono (Kd.R_far (p := ⟨gb539, 1, none⟩) (Kd.R_far (p := ⟨gb539, 0, none⟩) (Kd.R_types HO518.out BK539.out (by decide)) (fun _ hk => hk.2) (.slice Ao65 t532.length co65)) (fun _ hk => hk.2) (.slice Ao71 t535.length co71)) (fun _ h_ => h_.1)))))) (Kd.R_lt (zr_ ((Kd.R_mono (Kd.R_far (p := ⟨gb539, 1, none⟩) (Kd.R_far (p := ⟨gb539, 0, none⟩) (Kd.R_types HO526.out BK539.out (by decide)) (fun _ hk => hk.2) (.slice Ao65 t532.length co65)) (fun _ hk => hk.2) (.slice Ao71 t535.length co71)) (fun _ h_ => h_.1)))))) (Kd.R_lt (zr_ ((Kd.R_mono (Kd.R_far (p := ⟨gb539, 1, none⟩) (Kd.R_far (p := ⟨gb539, 0, none⟩) (Kd.R_types HO534.out BK539.out (by decide)) (fun _ hk => hk.2) (.slice Ao65 t532.length co65)) (fun _ hk => hk.2) (.slice Ao71 t535.length co71)) (fun _ h_ => h_.1)))))) (below_size (zw5_ HB GE511 GE512 GE523 GE531 GE539))); have n7_ := Aside0.mk (Kd.R_lower (Kd.R_new' (Kd.R_new' (Kd.R_new' ho1 (Kd.R_lt (zr_ ((Kd.R_mono (Kd.R_far (p := ⟨gb539, 1, none⟩) (Kd.R_far (p := ⟨gb539, 0, none⟩) (Kd.R_types HO521.out BK539.out (by decide)) (fun _ hk => hk.2) (.slice Ao65 t532.length co65)) (fun _ hk => hk.2) (.slice Ao71 t535.length co71)) (fun _ h_ => h_.1)))))) (Kd.R_lt (zr_ ((Kd.R_mono (Kd.R_far (p := ⟨gb539, 1, none⟩) (Kd.R_far (p := ⟨gb539, 0, none⟩) (Kd.R_types HO529.out BK539.out (by decide)) (fun _ hk => hk.2) (.slice Ao65 t532.length co65)) (fun _ hk => hk.2) (.slice Ao71 t535.length co71)) (fun _ h_ => h_.1)))))) (Kd.R_lt (zr_ ((Kd.R_mono (Kd.R_far (p := ⟨gb539, 1, none⟩) (Kd.R_far (p := ⟨gb539, 0, none⟩) (Kd.R_types HO537.out BK539.out (by decide)) (fun _ hk => hk.2) (.slice Ao65 t532.length co65)) (fun _ hk => hk.2) (.slice Ao71 t535.length co71)) (fun _ h_ => h_.1)))))) (below_size (zw5_ HB GE511 GE512 GE523 GE531 GE539))); have n8_ := Aside0.mk (blk_below (g := gb511) (o := .cells #[.slice A0_0 l0_0.length c0_0, .slice A0_1 l0_1.length c0_1] 27 (0, 0)) (by (with_reducible repeat (first | refine blk_drewN ?_ _ | refine blk_drew ?_ | refine blk_alloc ?_ _)); refine blk_far ?_ NB511_539.out _; (with_reducible repeat (first | refine blk_drewN ?_ _ | refine blk_drew ?_ | refine blk_alloc ?_ _)); refine blk_far ?_ NB511_539.out _; (with_reducible repeat (first | refine blk_drewN ?_ _ | refine blk_drew ?_ | refine blk_alloc ?_ _)); exact BK511.out) hb); have n9_ := Aside0.mk (blk_below (g := gb512) (o := .cells #[.slice A1_0 l1_0.length c1_0, .slice A1_1 l1_1.length c1_1] 27 (0, 0)) (by (with_reducible repeat (first | refine blk_drewN ?_ _ | refine blk_drew ?_ | refine blk_alloc ?_ _)); refine blk_far ?_ NB512_539.out _; (with_reducible repeat (first | refine blk_drewN ?_ _ | refine blk_drew ?_ | refine blk_alloc ?_ _)); refine blk_far ?_ NB512_539.out _; (with_reducible repeat (first | refine blk_drewN ?_ _ | refine blk_drew ?_ | refine blk_alloc ?_ _)); exact BK512.out) hb); have n10_ := Aside0.mk (blk_below (g := gb523) (o := .cells #[.slice Ao46 t516.length co46, .slice Ao50 t519.length co50] 27 (0, 0)) (by (with_reducible repeat (first | refine blk_drewN ?_ _ | refine blk_drew ?_ | refine blk_alloc ?_ _)); refine blk_far ?_ NB523_539.out _; (with_reducible repeat (first | refine blk_drewN ?_ _ | refine blk_drew ?_ | refine blk_alloc ?_ _)); refine blk_far ?_ NB523_539.out _; (with_reducible repeat (first | refine blk_drewN ?_ _ | refine blk_drew ?_ | refine blk_alloc ?_ _)); exact BK523.out) hb); have n11_ := Aside0.mk (blk_below (g := gb531) (o := .cells #[.slice Ao55 t524.length co55, .slice Ao60 t527.length co60] 27 (0, 0)) (by (with_reducible repeat (first | refine blk_drewN ?_ _ | refine blk_drew ?_ | refine blk_alloc ?_ _)); refine blk_far ?_ NB531_539.out _; (with_reducible repeat (first | refine blk_drewN ?_ _ | refine blk_drew ?_ | refine blk_alloc ?_ _)); refine blk_far ?_ NB531_539.out _; (with_reducible repeat (first | refine blk_drewN ?_ _ | refine blk_drew ?_ | refine blk_alloc ?_ _)); exact BK531.out) hb); have n12_ := Aside0.mk (blk_below (g := gb539) (o := .cells #[.slice Ao65 t532.length co65, .slice Ao71 t535.length co71] 27 (0, 0)) (by (with_reducible repeat (first | refine blk_drewN ?_ _ | refine blk_drew ?_ | refine blk_alloc ?_ _)); refine blk_put (cs := #[.slice Ao65 t532.length co65, .slice none 0 0]) ?_ 1 _ rfl; (with_reducible repeat (first | refine blk_drewN ?_ _ | refine blk_drew ?_ | refine blk_alloc ?_ _)); refine blk_put (cs := #[.slice none 0 0, .slice none 0 0]) ?_ 0 _ rfl; (with_reducible repeat (first | refine blk_drewN ?_ _ | refine blk_drew ?_ | refine blk_alloc ?_ _)); exact BK539.out) hb); have n13_ := Aside0.mk (below_step (zw5_ HB GE511 GE512 GE523 GE531 GE539) hb); clear HO518 HO521 HO526 HO529 HO534 HO537 BK511 BK512 BK523 BK531 BK539 HB; have HO518 := n0_; have HO521 := n1_; have HO526 := n2_; have HO529 := n3_; have HO534 := n4_; have HO537 := n5_; have HO542 := n6_; have HO545 := n7_; have BK511 := n8_; have BK512 := n9_; have BK523 := n10_; have BK531 := n11_; have BK539 := n12_; have HB := n13_; clear n0_ n1_ n2_ n3_ n4_ n5_ n6_ n7_ n8_ n9_ n10_ n11_ n12_ n13_; (try clear hb); (try clear hb2); (try clear hk); (try clear hi); (try clear ho0); (try clear ho1)) | ((with_reducible refine gate_dst (N := 11) rfl ?_); refine box_event ?hg (N := 11) ?hd (cs := #[.slice none 0 0, .slice none 0 0]) (t := 27) ?hr ?_; (case hd => rfl); (case hg => rfl); (case hr => first | (go_simp; done) | (go_simp; rfl)); intro gb547 hg w75 hbox hb; have n0_ := Aside0.mk (Kd.R_below (zr_ HO518.out) hb); have n1_ := Aside0.mk (Kd.R_below (zr_ HO521.out) hb); have n2_ := Aside0.mk (Kd.R_below (zr_ HO526.out) hb); have n3_ := Aside0.mk (Kd.R_below (zr_ HO529.out) hb); have n4_ := Aside0.mk (Kd.R_below (zr_ HO534.out) hb); have n5_ := Aside0.mk (Kd.R_below (zr_ HO537.out) hb); have n6_ := Aside0.mk (Kd.R_below (zr_ HO542.out) hb); have n7_ := Aside0.mk (Kd.R_below (zr_ HO545.out) hb); have n8_ := Aside0.mk (zl_ BK511 hb); have n9_ := Aside0.mk (zl_ BK512 hb); have n10_ := Aside0.mk (zl_ BK523 hb); have n11_ := Aside0.mk (zl_ BK531 hb); have n12_ := Aside0.mk (zl_ BK539 hb); have n13_ := Aside0.mk (below_step (zw5_ HB GE511 GE512 GE523 GE531 GE539) hb); have n14_ := Aside0.mk (hbox); have n15_ := Aside0.mk (zs_ hg (zw5_ HB GE511 GE512 GE523 GE531 GE539)); have n16_ := Aside0.mk (zs_ hg (zw5_ HB GE511 GE512 GE523 GE531 GE539)); have n17_ := Aside0.mk (zn_ hg BK511); have n18_ := Aside0.mk (zm_ hg BK511); have n19_ := Aside0.mk (zn_ hg BK512); have n20_ := Aside0.mk (zm_ hg BK512); have n21_ := Aside0.mk (zn_ hg BK523); have n22_ := Aside0.mk (zm_ hg BK523); have n23_ := Aside0.mk (zn_ hg BK531); have n24_ := Aside0.mk (zm_ hg BK531); have n25_ := Aside0.mk (zn_ hg BK539); have n26_ := Aside0.mk (zm_ hg BK539); clear HO518 HO521 HO526 HO529 HO534 HO537 HO542 HO545 BK511 BK512 BK523 BK531 BK539 HB; have HO518 := n0_; have HO521 := n1_; have HO526 := n2_; have HO529 := n3_; have HO534 := n4_; have HO537 := n5_; have HO542 := n6_; have HO545 := n7_; have BK511 := n8_; have BK512 := n9_; have BK523 := n10_; have BK531 := n11_; have BK539 := n12_; have HB := n13_; have BK547 := n14_; have GW547 := n15_; have GE547 := n16_; have NB511_547 := n17_; have NB547_511 := n18_; have NB512_547 := n19_; have NB547_512 := n20_; have NB523_547 := n21_; have NB547_523 := n22_; have NB531_547 := n23_; have NB547_531 := n24_; have NB539_547 := n25_; have NB547_539 := n26_; clear n0_ n1_ n2_ n3_ n4_ n5_ n6_ n7_ n8_ n9_ n10_ n11_ n12_ n13_ n14_ n15_ n16_ n17_ n18_ n19_ n20_ n21_ n22_ n23_ n24_ n25_ n26_; clear hb hbox hg; obtain ⟨Ao76, co76, eo76⟩ := Kd.R_slice HO542.out; subst eo76; have hnb77 := NB547_511.out; have hnc77 := NB511_547.out; have hnb78 := NB547_512.out; have hnc78 := NB512_547.out; have hnb79 := NB547_523.out; have hnc79 := NB523_547.out; have hnb80 := NB547_531.out; have hnc80 := NB531_547.out; have hnb81 := NB547_539.out; have hnc81 := NB539_547.out; have hcz82_0 := zx_ (v := .slice none 0 0) BK547 0; have hcz82_1 := zx_ (v := .slice none 0 0) BK547 1; have hfz82_0 := blk_frozen BK547.out 0; have hfz82_1 := blk_frozen BK547.out 1; obtain ⟨Ao83, co83, eo83⟩ := Kd.R_slice HO545.out; subst eo83; have hcz84_0 := zx_ (v := .slice A0_0 l0_0.length c0_0) BK511 0; have hcz84_1 := zx_ (v := .slice A0_1 l0_1.length c0_1) BK511 1; have hfz84_0 := blk_frozen BK511.out 0; have hfz84_1 := blk_frozen BK511.out 1; have hcz85_0 := zx_ (v := .slice A1_0 l1_0.length c1_0) BK512 0; have hcz85_1 := zx_ (v := .slice A1_1 l1_1.length c1_1) BK512 1; have hfz85_0 := blk_frozen BK512.out 0; have hfz85_1 := blk_frozen BK512.out 1) | ((with_reducible refine gate_callee (f := 24) rfl ?_); refine zg_ (some 52) Try.func24 #[.int .i64 1, .agg #[.slice A0_0 l0_0.length c0_0, .slice A0_1 l0_1.length c0_1], .agg #[.slice A1_0 l1_0.length c1_0, .slice A1_1 l1_1.length c1_1]] (h := ?_); (with_reducible refine (carouselref5_Each.calls kj4 1 _ _ l0_0 _ _ l0_1 _ _ l1_0 _ _ l1_1 t548 t551 t554 _ ?side1 ?side2 ?side3 ?side4 ?side5 ?side6 ?side7 ?side8 A25.out).mono ?_); (case side1 => exact Kd.C_below HR0_0.out (zw6_ HB GE511 GE512 GE523 GE531 GE539 GE547)); (case side2 => exact HC0_0.out); (case side3 => exact Kd.C_below HR0_1.out (zw6_ HB GE511 GE512 GE523 GE531 GE539 GE547)); (case side4 => exact HC0_1.out); (case side5 => exact Kd.C_below HR1_0.out (zw6_ HB GE511 GE512 GE523 GE531 GE539 GE547)); (case side6 => exact HC1_0.out); (case side7 => exact Kd.C_below HR1_1.out (zw6_ HB GE511 GE512 GE523 GE531 GE539 GE547)); (case side8 => exact HC1_1.out); rintro e w86 ⟨v549, v552, rfl, ho0, ho1, hb⟩; refine ⟨_, rfl, ?_⟩; have n0_ := Aside0.mk (Kd.R_elder' (zr_ ((Kd.R_mono (Kd.R_far (p := ⟨gb547, 1, none⟩) (Kd.R_far (p := ⟨gb547, 0, none⟩) (Kd.R_types HO518.out BK547.out (by decide)) (fun _ hk => hk.2) (.slice Ao76 t540.length co76)) (fun _ hk => hk.2) (.slice Ao83 t543.length co83)) (fun _ h_ => h_.1)))) (Kd.R_base ho0) hb); have n1_ := Aside0.mk (Kd.R_elder' (zr_ ((Kd.R_mono (Kd.R_far (p := ⟨gb547, 1, none⟩) (Kd.R_far (p := ⟨gb547, 0, none⟩) (Kd.R_types HO521.out BK547.out (by decide)) (fun _ hk => hk.2) (.slice Ao76 t540.length co76)) (fun _ hk => hk.2) (.slice Ao83 t543.length co83)) (fun _ h_ => h_.1)))) (Kd.R_base ho1) hb); have n2_ := Aside0.mk (Kd.R_elder' (zr_ ((Kd.R_mono (Kd.R_far (p := ⟨gb547, 1, none⟩) (Kd.R_far (p := ⟨gb547, 0, none⟩) (Kd.R_types HO526.out BK547.out (by decide)) (fun _ hk => hk.2) (.slice Ao76 t540.length co76)) (fun _ hk => hk.2) (.slice Ao83 t543.length co83)) (fun _ h_ => h_.1)))) (Kd.R_base ho0) hb); have n3_ := Aside0.mk (Kd.R_elder' (zr_ ((Kd.R_mono (Kd.R_far (p := ⟨gb547, 1, none⟩) (Kd.R_far (p := ⟨gb547, 0, none⟩) (Kd.R_types HO529.out BK547.out (by decide)) (fun _ hk => hk.2) (.slice Ao76 t540.length co76)) (fun _ hk => hk.2) (.slice Ao83 t543.length co83)) (fun _ h_ => h_.1)))) (Kd.R_base ho1) hb); have n4_ := Aside0.mk (Kd.R_elder' (zr_ ((Kd.R_mono (Kd.R_far (p := ⟨gb547, 1, none⟩) (Kd.R_far (p := ⟨gb547, 0, none⟩) (Kd.R_types HO534.out BK547.out (by decide)) (fun _ hk => hk.2) (.slice Ao76 t540.length co76)) (fun _ hk => hk.2) (.slice Ao83 t543.length co83)) (fun _ h_ => h_.1)))) (Kd.R_base ho0) hb); have n5_ := Aside0.mk (Kd.R_elder' (zr_ ((Kd.R_mono (Kd.R_far (p := ⟨gb547, 1, none⟩) (Kd.R_far (p := ⟨gb547, 0, none⟩) (Kd.R_types HO537.out BK547.out (by decide)) (fun _ hk => hk.2) (.slice Ao76 t540.length co76)) (fun _ hk => hk.2) (.slice Ao83 t543.length co83)) (fun _ h_ => h_.1)))) (Kd.R_base ho1) hb); have n6_ := Aside0.mk (Kd.R_elder' (zr_ ((Kd.R_mono (Kd.R_far (p := ⟨gb547, 1, none⟩) (Kd.R_far (p := ⟨gb547, 0, none⟩) (Kd.R_types HO542.out BK547.out (by decide)) (fun _ hk => hk.2) (.slice Ao76 t540.length co76)) (fun _ hk => hk.2) (.slice Ao83 t543.length co83)) (fun _ h_ => h_.1)))) (Kd.R_base ho0) hb); have n7_ := Aside0.mk (Kd.R_elder' (zr_ ((Kd.R_mono (Kd.R_far (p := ⟨gb547, 1, none⟩) (Kd.R_far (p := ⟨gb547, 0, none⟩) (Kd.R_types HO545.out BK547.out (by decide)) (fun _ hk => hk.2) (.slice Ao76 t540.length co76)) (fun _ hk => hk.2) (.slice Ao83 t543.length co83)) (fun _ h_ => h_.1)))) (Kd.R_base ho1) hb); have n8_ := Aside0.mk (Kd.R_lower (Kd.R_new' (Kd.R_new' (Kd.R_new' (Kd.R_new' ho0 (Kd.R_lt (zr_ ((Kd.R_mono (Kd.R_far (p := ⟨gb547, 1, none⟩) (Kd.R_far (p := ⟨gb547, 0, none⟩) (Kd.R_types HO518.out BK547.out (by decide)) (fun _ hk => hk.2) (.slice Ao76 t540.length co76)) (fun _ hk => hk.2) (.slice Ao83 t543.length co83)) (fun _ h_ => h_.1)))))) (Kd.R_lt (zr_ ((Kd.R_mono (Kd.R_far (p := ⟨gb547, 1, none⟩) (Kd.R_far (p := ⟨gb547, 0, none⟩) (Kd.R_types HO526.out BK547.out (by decide)) (fun _ hk => hk.2) (.slice Ao76 t540.length co76)) (fun _ hk => hk.2) (.slice Ao83 t543.length co83)) (fun _ h_ => h_.1)))))) (Kd.R_lt (zr_ ((Kd.R_mono (Kd.R_far (p := ⟨gb547, 1, none⟩) (Kd.R_far (p := ⟨gb547, 0, none⟩) (Kd.R_types HO534.out BK547.out (by decide)) (fun _ hk => hk.2) (.slice Ao76 t540.length co76)) (fun _ hk => hk.2) (.slice Ao83 t543.length co83)) (fun _ h_ => h_.1)))))) (Kd.R_lt (zr_ ((Kd.R_mono (Kd.R_far (p := ⟨gb547, 1, none⟩) (Kd.R_far (p := ⟨gb547, 0, none⟩) (Kd.R_types HO542.out BK547.out (by decide)) (fun _ hk => hk.2) (.slice Ao76 t540.length co76)) (fun _ hk => hk.2) (.slice Ao83 t543.length co83)) (fun _ h_ => h_.1)))))) (below_size (zw6_ HB GE511 GE512 GE523 GE531 GE539 GE547))); have n9_ := Aside0.mk (Kd.R_lower (Kd.R_new' (Kd.R_new' (Kd.R_new' (Kd.R_new' ho1 (Kd.R_lt (zr_ ((Kd.R_mono (Kd.R_far (p := ⟨gb547, 1, none⟩) (Kd.R_far (p := ⟨gb547, 0, none⟩) (Kd.R_types HO521.out BK547.out (by decide)) (fun _ hk => hk.2) (.slice Ao76 t540.length co76)) (fun _ hk => hk.2) (.slice Ao83 t543.length co83)) (fun _ h_ => h_.1)))))) (Kd.R_lt (zr_ ((Kd.R_mono (Kd.R_far (p := ⟨gb547, 1, none⟩) (Kd.R_far (p := ⟨gb547, 0, none⟩) (Kd.R_types HO529.out BK547.out (by decide)) (fun _ hk => hk.2) (.slice Ao76 t540.length co76)) (fun _ hk => hk.2) (.slice Ao83 t543.length co83)) (fun _ h_ => h_.1)))))) (Kd.R_lt (zr_ ((Kd.R_mono (Kd.R_far (p := ⟨gb547, 1, none⟩) (Kd.R_far (p := ⟨gb547, 0, none⟩) (Kd.R_types HO537.out BK547.out (by decide)) (fun _ hk => hk.2) (.slice Ao76 t540.length co76)) (fun _ hk => hk.2) (.slice Ao83 t543.length co83)) (fun _ h_ => h_.1)))))) (Kd.R_lt (zr_ ((Kd.R_mono (Kd.R_far (p := ⟨gb547, 1, none⟩) (Kd.R_far (p := ⟨gb547, 0, none⟩) (Kd.R_types HO545.out BK547.out (by decide)) (fun _ hk => hk.2) (.slice Ao76 t540.length co76)) (fun _ hk => hk.2) (.slice Ao83 t543.length co83)) (fun _ h_ => h_.1)))))) (below_size (zw6_ HB GE511 GE512 GE523 GE531 GE539 GE547))); have n10_ := Aside0.mk (blk_below (g := gb511) (o := .cells #[.slice A0_0 l0_0.length c0_0, .slice A0_1 l0_1.length c0_1] 27 (0, 0)) (by (with_reducible repeat (first | refine blk_drewN ?_ _ | refine blk_drew ?_ | refine blk_alloc ?_ _)); refine blk_far ?_ NB511_547.out _; (with_reducible repeat (first | refine blk_drewN ?_ _ | refine blk_drew ?_ | refine blk_alloc ?_ _)); refine blk_far ?_ NB511_547.out _; (with_reducible repeat (first | refine blk_drewN ?_ _ | refine blk_drew ?_ | refine blk_alloc ?_ _)); exact BK511.out) hb); have n11_ := Aside0.mk (blk_below (g := gb512) (o := .cells #[.slice A1_0 l1_0.length c1_0, .slice A1_1 l1_1.length c1_1] 27 (0, 0)) (by (with_reducible repeat (first | refine blk_drewN ?_ _ | refine blk_drew ?_ | refine blk_alloc ?_ _)); refine blk_far ?_ NB512_547.out _; (with_reducible repeat (first | refine blk_drewN ?_ _ | refine blk_drew ?_ | refine blk_alloc ?_ _)); refine blk_far ?_ NB512_547.out _; (with_reducible repeat (first | refine blk_drewN ?_ _ | refine blk_drew ?_ | refine blk_alloc ?_ _)); exact BK512.out) hb); have n12_ := Aside0.mk (blk_below (g := gb523) (o := .cells #[.slice Ao46 t516.length co46, .slice Ao50 t519.length co50] 27 (0, 0)) (by (with_reducible repeat (first | refine blk_drewN ?_ _ | refine blk_drew ?_ | refine blk_alloc ?_ _)); refine blk_far ?_ NB523_547.out _; (with_reducible repeat (first | refine blk_drewN ?_ _ | refine blk_drew ?_ | refine blk_alloc ?_ _)); refine blk_far ?_ NB523_547.out _; (with_reducible repeat (first | refine blk_drewN ?_ _ | refine blk_drew ?_ | refine blk_alloc ?_ _)); exact BK523.out) hb); have n13_ := Aside0.mk (blk_below (g := gb531) (o := .cells #[.slice Ao55 t524.length co55, .slice Ao60 t527.length co60] 27 (0, 0)) (by (with_reducible repeat (first | refine blk_drewN ?_ _ | refine blk_drew ?_ | refine blk_alloc ?_ _)); refine blk_far ?_ NB531_547.out _; (with_reducible repeat (first | refine blk_drewN ?_ _ | refine blk_drew ?_ | refine blk_alloc ?_ _)); refine blk_far ?_ NB531_547.out _; (with_reducible repeat (first | refine blk_drewN ?_ _ | refine blk_drew ?_ | refine blk_alloc ?_ _)); exact BK531.out) hb); have n14_ := Aside0.mk (blk_below (g := gb539) (o := .cells #[.slice Ao65 t532.length co65, .slice Ao71 t535.length co71] 27 (0, 0)) (by (with_reducible repeat (first | refine blk_drewN ?_ _ | refine blk_drew ?_ | refine blk_alloc ?_ _)); refine blk_far ?_ NB539_547.out _; (with_reducible repeat (first | refine blk_drewN ?_ _ | refine blk_drew ?_ | refine blk_alloc ?_ _)); refine blk_far ?_ NB539_547.out _; (with_reducible repeat (first | refine blk_drewN ?_ _ | refine blk_drew ?_ | refine blk_alloc ?_ _)); exact BK539.out) hb); have n15_ := Aside0.mk (blk_below (g := gb547) (o := .cells #[.slice Ao76 t540.length co76, .slice Ao83 t543.length co83] 27 (0, 0)) (by (with_reducible repeat (first | refine blk_drewN ?_ _ | refine blk_drew ?_ | refine blk_alloc ?_ _)); refine blk_put (cs := #[.slice Ao76 t540.length co76, .slice none 0 0]) ?_ 1 _ rfl; (with_reducible repeat (first | refine blk_drewN ?_ _ | refine blk_drew ?_ | refine blk_alloc ?_ _)); refine blk_put (cs := #[.slice none 0 0, .slice none 0 0]) ?_ 0 _ rfl; (with_reducible repeat (first | refine blk_drewN ?_ _ | refine blk_drew ?_ | refine blk_alloc ?_ _)); exact BK547.out) hb); have n16_ := Aside0.mk (below_step (zw6_ HB GE511 GE512 GE523 GE531 GE539 GE547) hb); clear HO518 HO521 HO526 HO529 HO534 HO537 HO542 HO545 BK511 BK512 BK523 BK531 BK539 BK547 HB; have HO518 := n0_; have HO521 := n1_; have HO526 := n2_; have HO529 := n3_; have HO534 := n4_; have HO537 := n5_; have HO542 := n6_; have HO545 := n7_; have HO550 := n8_; have HO553 := n9_; have BK511 := n10_; have BK512 := n11_; have BK523 := n12_; have BK531 := n13_; have BK539 := n14_; have BK547 := n15_; have HB := n16_; clear n0_ n1_ n2_ n3_ n4_ n5_ n6_ n7_ n8_ n9_ n10_ n11_ n12_ n13_ n14_ n15_ n16_; (try clear hb); (try clear hb2); (try clear hk); (try clear hi); (try clear ho0); (try clear ho1)) | ((with_reducible refine gate_dst (N := 13) rfl ?_); refine box_event ?hg (N := 13) ?hd (cs := #[.slice none 0 0, .slice none 0 0]) (t := 27) ?hr ?_; (case hd => rfl); (case hg => rfl); (case hr => first | (go_simp; done) | (go_simp; rfl)); intro gb555 hg w87 hbox hb; have n0_ := Aside0.mk (Kd.R_below (zr_ HO518.out) hb); have n1_ := Aside0.mk (Kd.R_below (zr_ HO521.out) hb); have n2_ := Aside0.mk (Kd.R_below (zr_ HO526.out) hb); have n3_ := Aside0.mk (Kd.R_below (zr_ HO529.out) hb); have n4_ := Aside0.mk (Kd.R_below (zr_ HO534.out) hb); have n5_ := Aside0.mk (Kd.R_below (zr_ HO537.out) hb); have n6_ := Aside0.mk (Kd.R_below (zr_ HO542.out) hb); have n7_ := Aside0.mk (Kd.R_below (zr_ HO545.out) hb); have n8_ := Aside0.mk (Kd.R_below (zr_ HO550.out) hb); have n9_ := Aside0.mk (Kd.R_below (zr_ HO553.out) hb); have n10_ := Aside0.mk (zl_ BK511 hb); have n11_ := Aside0.mk (zl_ BK512 hb); have n12_ := Aside0.mk (zl_ BK523 hb); have n13_ := Aside0.mk (zl_ BK531 hb); have n14_ := Aside0.mk (zl_ BK539 hb); have n15_ := Aside0.mk (zl_ BK547 hb); have n16_ := Aside0.mk (below_step (zw6_ HB GE511 GE512 GE523 GE531 GE539 GE547) hb); have n17_ := Aside0.mk (hbox); have n18_ := Aside0.mk (zs_ hg (zw6_ HB GE511 GE512 GE523 GE531 GE539 GE547)); have n19_ := Aside0.mk (zs_ hg (zw6_ HB GE511 GE512 GE523 GE531 GE539 GE547)); have n20_ := Aside0.mk (zn_ hg BK511); have n21_ := Aside0.mk (zm_ hg BK511); have n22_ := Aside0.mk (zn_ hg BK512); have n23_ := Aside0.mk (zm_ hg BK512); have n24_ := Aside0.mk (zn_ hg BK523); have n25_ := Aside0.mk (zm_ hg BK523); have n26_ := Aside0.mk (zn_ hg BK531); have n27_ := Aside0.mk (zm_ hg BK531); have n28_ := Aside0.mk (zn_ hg BK539); have n29_ := Aside0.mk (zm_ hg BK539); have n30_ := Aside0.mk (zn_ hg BK547); have n31_ := Aside0.mk (zm_ hg BK547); clear HO518 HO521 HO526 HO529 HO534 HO537 HO542 HO545 HO550 HO553 BK511 BK512 BK523 BK531 BK539 BK547 HB; have HO518 := n0_; have HO521 := n1_; have HO526 := n2_; have HO529 := n3_; have HO534 := n4_; have HO537 := n5_; have HO542 := n6_; have HO545 := n7_; have HO550 := n8_; have HO553 := n9_; have BK511 := n10_; have BK512 := n11_; have BK523 := n12_; have BK531 := n13_; have BK539 := n14_; have BK547 := n15_; have HB := n16_; have BK555 := n17_; have GW555 := n18_; have GE555 := n19_; have NB511_555 := n20_; have NB555_511 := n21_; have NB512_555 := n22_; have NB555_512 := n23_; have NB523_555 := n24_; have NB555_523 := n25_; have NB531_555 := n26_; have NB555_531 := n27_; have NB539_555 := n28_; have NB555_539 := n29_; have NB547_555 := n30_; have NB555_547 := n31_; clear n0_ n1_ n2_ n3_ n4_ n5_ n6_ n7_ n8_ n9_ n10_ n11_ n12_ n13_ n14_ n15_ n16_ n17_ n18_ n19_ n20_ n21_ n22_ n23_ n24_ n25_ n26_ n27_ n28_ n29_ n30_ n31_; clear hb hbox hg; obtain ⟨Ao88, co88, eo88⟩ := Kd.R_slice HO550.out; subst eo88; have hnb89 := NB555_511.out; have hnc89 := NB511_555.out; have hnb90 := NB555_512.out; have hnc90 := NB512_555.out; have hnb91 := NB555_523.out; have hnc91 := NB523_555.out; have hnb92 := NB555_531.out; have hnc92 := NB531_555.out; have hnb93 := NB555_539.out; have hnc93 := NB539_555.out; have hnb94 := NB555_547.out; have hnc94 := NB547_555.out; have hcz95_0 := zx_ (v := .slice none 0 0) BK555 0; have hcz95_1 := zx_ (v := .slice none 0 0) BK555 1; have hfz95_0 := blk_frozen BK555.out 0; have hfz95_1 := blk_frozen BK555.out 1; obtain ⟨Ao96, co96, eo96⟩ := Kd.R_slice HO553.out; subst eo96; have hcz97_0 := zx_ (v := .slice A0_0 l0_0.length c0_0) BK511 0; have hcz97_1 := zx_ (v := .slice A0_1 l0_1.length c0_1) BK511 1; have hfz97_0 := blk_frozen BK511.out 0; have hfz97_1 := blk_frozen BK511.out 1; have hcz98_0 := zx_ (v := .slice A1_0 l1_0.length c1_0) BK512 0; have hcz98_1 := zx_ (v := .slice A1_1 l1_1.length c1_1) BK512 1; have hfz98_0 := blk_frozen BK512.out 0; have hfz98_1 := blk_frozen BK512.out 1) | ((with_reducible refine gate_callee (f := 24) rfl ?_); refine zg_ (some 58) Try.func24 #[.int .i64 2, .agg #[.slice A0_0 l0_0.length c0_0, .slice A0_1 l0_1.length c0_1], .agg #[.slice A1_0 l1_0.length c1_0, .slice A1_1 l1_1.length c1_1]] (h := ?_); (with_reducible refine (carouselref5_Each.calls kj4 2 _ _ l0_0 _ _ l0_1 _ _ l1_0 _ _ l1_1 t556 t559 t562 _ ?side1 ?side2 ?side3 ?side4 ?side5 ?side6 ?side7 ?side8 A26.out).mono ?_); (case side1 => exact Kd.C_below HR0_0.out (zw7_ HB GE511 GE512 GE523 GE531 GE539 GE547 GE555)); (case side2 => exact HC0_0.out); (case side3 => exact Kd.C_below HR0_1.out (zw7_ HB GE511 GE512 GE523 GE531 GE539 GE547 GE555)); (case side4 => exact HC0_1.out); (case side5 => exact Kd.C_below HR1_0.out (zw7_ HB GE511 GE512 GE523 GE531 GE539 GE547 GE555)); (case side6 => exact HC1_0.out); (case side7 => exact Kd.C_below HR1_1.out (zw7_ HB GE511 GE512 GE523 GE531 GE539 GE547 GE555)); (case side8 => exact HC1_1.out); rintro e w99 ⟨v557, v560, rfl, ho0, ho1, hb⟩; refine ⟨_, rfl, ?_⟩; have n0_ := Aside0.mk (Kd.R_elder' (zr_ ((Kd.R_mono (Kd.R_far (p := ⟨gb555, 1, none⟩) (Kd.R_far (p := ⟨gb555, 0, none⟩) (Kd.R_types HO518.out BK555.out (by decide)) (fun _ hk => hk.2) (.slice Ao88 t548.length co88)) (fun _ hk => hk.2) (.slice Ao96 t551.length co96)) (fun _ h_ => h_.1)))) (Kd.R_base ho0) hb); have n1_ := Aside0.mk (Kd.R_elder' (zr_ ((Kd.R_mono (Kd.R_far (p := ⟨gb555, 1, none⟩) (Kd.R_far (p := ⟨gb555, 0, none⟩) (Kd.R_types HO521.out BK555.out (by decide)) (fun _ hk => hk.2) (.slice Ao88 t548.length co88)) (fun _ hk => hk.2) (.slice Ao96 t551.length co96)) (fun _ h_ => h_.1)))) (Kd.R_base ho1) hb); have n2_ := Aside0.mk (Kd.R_elder' (zr_ ((Kd.R_mono (Kd.R_far (p := ⟨gb555, 1, none⟩) (Kd.R_far (p := ⟨gb555, 0, none⟩) (Kd.R_types HO526.out BK555.out (by decide)) (fun _ hk => hk.2) (.slice Ao88 t548.length co88)) (fun _ hk => hk.2) (.slice Ao96 t551.length co96)) (fun _ h_ => h_.1)))) (Kd.R_base ho0) hb); have n3_ := Aside0.mk (Kd.R_elder' (zr_ ((Kd.R_mono (Kd.R_far (p := ⟨gb555, 1, none⟩) (Kd.R_far (p := ⟨gb555, 0, none⟩) (Kd.R_types HO529.out BK555.out (by decide)) (fun _ hk => hk.2) (.slice Ao88 t548.length co88)) (fun _ hk => hk.2) (.slice Ao96 t551.length co96)) (fun _ h_ => h_.1)))) (Kd.R_base ho1) hb); have n4_ := Aside0.mk (Kd.R_elder' (zr_ ((Kd.R_mono (Kd.R_far (p := ⟨gb555, 1, none⟩) (Kd.R_far (p := ⟨gb555, 0, none⟩) (Kd.R_types HO534.out BK555.out (by decide)) (fun _ hk => hk.2) (.slice Ao88 t548.length co88)) (fun _ hk => hk.2) (.slice Ao96 t551.length co96)) (fun _ h_ => h_.1)))) (Kd.R_base ho0) hb); have n5_ := Aside0.mk (Kd.R_elder' (zr_ ((Kd.R_mono (Kd.R_far (p := ⟨gb555, 1, none⟩) (Kd.R_far (p := ⟨gb555, 0, none⟩) (Kd.R_types HO537.out BK555.out (by decide)) (fun _ hk => hk.2) (.slice Ao88 t548.length co88)) (fun _ hk => hk.2) (.slice Ao96 t551.length co96)) (fun _ h_ => h_.1)))) (Kd.R_base ho1) hb); have n6_ := Aside0.mk (Kd.R_elder' (zr_ ((Kd.R_mono (Kd.R_far (p := ⟨gb555, 1, none⟩) (Kd.R_far (p := ⟨gb555, 0, none⟩) (Kd.R_types HO542.out BK555.out (by decide)) (fun _ hk => hk.2) (.slice Ao88 t548.length co88)) (fun _ hk => hk.2) (.slice Ao96 t551.length co96)) (fun _ h_ => h_.1)))) (Kd.R_base ho0) hb); have n7_ := Aside0.mk (Kd.R_elder' (zr_ ((Kd.R_mono (Kd.R_far (p := ⟨gb555, 1, none⟩) (Kd.R_far (p := ⟨gb555, 0, none⟩) (Kd.R_types HO545.out BK555.out (by decide)) (fun _ hk => hk.2) (.slice Ao88 t548.length co88)) (fun _ hk => hk.2) (.slice Ao96 t551.length co96)) (fun _ h_ => h_.1)))) (Kd.R_base ho1) hb); have n8_ := Aside0.mk (Kd.R_elder' (zr_ ((Kd.R_mono (Kd.R_far (p := ⟨gb555, 1, none⟩) (Kd.R_far (p := ⟨gb555, 0, none⟩) (Kd.R_types HO550.out BK555.out (by decide)) (fun _ hk => hk.2) (.slice Ao88 t548.length co88)) (fun _ hk => hk.2) (.slice Ao96 t551.length co96)) (fun _ h_ => h_.1)))) (Kd.R_base ho0) hb); have n9_ := Aside0.mk (Kd.R_elder' (zr_ ((Kd.R_mono (Kd.R_far (p := ⟨gb555, 1, none⟩) (Kd.R_far (p := ⟨gb555, 0, none⟩) (Kd.R_types HO553.out BK555.out (by decide)) (fun _ hk => hk.2) (.slice Ao88 t548.length co88)) (fun _ hk => hk.2) (.slice Ao96 t551.length co96)) (fun _ h_ => h_.1)))) (Kd.R_base ho1) hb); have n10_ := Aside0.mk (Kd.R_lower (Kd.R_new' (Kd.R_new' (Kd.R_new' (Kd.R_new' (Kd.R_new' ho0 (Kd.R_lt (zr_ ((Kd.R_mono (Kd.R_far (p := ⟨gb555, 1, none⟩) (Kd.R_far (p := ⟨gb555, 0, none⟩) (Kd.R_types HO518.out BK555.out (by decide)) (fun _ hk => hk.2) (.slice Ao88 t548.length co88)) (fun _ hk => hk.2) (.slice Ao96 t551.length co96)) (fun _ h_ => h_.1)))))) (Kd.R_lt (zr_ ((Kd.R_mono (Kd.R_far (p := ⟨gb555, 1, none⟩) (Kd.R_far (p := ⟨gb555, 0, none⟩) (Kd.R_types HO526.out BK555.out (by decide)) (fun _ hk => hk.2) (.slice Ao88 t548.length co88)) (fun _ hk => hk.2) (.slice Ao96 t551.length co96)) (fun _ h_ => h_.1)))))) (Kd.R_lt (zr_ ((Kd.R_mono (Kd.R_far (p := ⟨gb555, 1, none⟩) (Kd.R_far (p := ⟨gb555, 0, none⟩) (Kd.R_types HO534.out BK555.out (by decide)) (fun _ hk => hk.2) (.slice Ao88 t548.length co88)) (fun _ hk => hk.2) (.slice Ao96 t551.length co96)) (fun _ h_ => h_.1)))))) (Kd.R_lt (zr_ ((Kd.R_mono (Kd.R_far (p := ⟨gb555, 1, none⟩) (Kd.R_far (p := ⟨gb555, 0, none⟩) (Kd.R_types HO542.out BK555.out (by decide)) (fun _ hk => hk.2) (.slice Ao88 t548.length co88)) (fun _ hk => hk.2) (.slice Ao96 t551.length co96)) (fun _ h_ => h_.1)))))) (Kd.R_lt (zr_ ((Kd.R_mono (Kd.R_far (p := ⟨gb555, 1, none⟩) (Kd.R_far (p := ⟨gb555, 0, none⟩) (Kd.R_types HO550.out BK555.out (by decide)) (fun _ hk => hk.2) (.slice Ao88 t548.length co88)) (fun _ hk => hk.2) (.slice Ao96 t551.length co96)) (fun _ h_ => h_.1)))))) (below_size (zw7_ HB GE511 GE512 GE523 GE531 GE539 GE547 GE555))); have n11_ := Aside0.mk (Kd.R_lower (Kd.R_new' (Kd.R_new' (Kd.R_new' (Kd.R_new' (Kd.R_new' ho1 (Kd.R_lt (zr_ ((Kd.R_mono (Kd.R_far (p := ⟨gb555, 1, none⟩) (Kd.R_far (p := ⟨gb555, 0, none⟩) (Kd.R_types HO521.out BK555.out (by decide)) (fun _ hk => hk.2) (.slice Ao88 t548.length co88)) (fun _ hk => hk.2) (.slice Ao96 t551.length co96)) (fun _ h_ => h_.1)))))) (Kd.R_lt (zr_ ((Kd.R_mono (Kd.R_far (p := ⟨gb555, 1, none⟩) (Kd.R_far (p := ⟨gb555, 0, none⟩) (Kd.R_types HO529.out BK555.out (by decide)) (fun _ hk => hk.2) (.slice Ao88 t548.length co88)) (fun _ hk => hk.2) (.slice Ao96 t551.length co96)) (fun _ h_ => h_.1)))))) (Kd.R_lt (zr_ ((Kd.R_mono (Kd.R_far (p := ⟨gb555, 1, none⟩) (Kd.R_far (p := ⟨gb555, 0, none⟩) (Kd.R_types HO537.out BK555.out (by decide)) (fun _ hk => hk.2) (.slice Ao88 t548.length co88)) (fun _ hk => hk.2) (.slice Ao96 t551.length co96)) (fun _ h_ => h_.1)))))) (Kd.R_lt (zr_ ((Kd.R_mono (Kd.R_far (p := ⟨gb555, 1, none⟩) (Kd.R_far (p := ⟨gb555, 0, none⟩) (Kd.R_types HO545.out BK555.out (by decide)) (fun _ hk => hk.2) (.slice Ao88 t548.length co88)) (fun _ hk => hk.2) (.slice Ao96 t551.length co96)) (fun _ h_ => h_.1)))))) (Kd.R_lt (zr_ ((Kd.R_mono (Kd.R_far (p := ⟨gb555, 1, none⟩) (Kd.R_far (p := ⟨gb555, 0, none⟩) (Kd.R_types HO553.out BK555.out (by decide)) (fun _ hk => hk.2) (.slice Ao88 t548.length co88)) (fun _ hk => hk.2) (.slice Ao96 t551.length co96)) (fun _ h_ => h_.1)))))) (below_size (zw7_ HB GE511 GE512 GE523 GE531 GE539 GE547 GE555))); have n12_ := Aside0.mk (blk_below (g := gb511) (o := .cells #[.slice A0_0 l0_0.length c0_0, .slice A0_1 l0_1.length c0_1] 27 (0, 0)) (by (with_reducible repeat (first | refine blk_drewN ?_ _ | refine blk_drew ?_ | refine blk_alloc ?_ _)); refine blk_far ?_ NB511_555.out _; (with_reducible repeat (first | refine blk_drewN ?_ _ | refine blk_drew ?_ | refine blk_alloc ?_ _)); refine blk_far ?_ NB511_555.out _; (with_reducible repeat (first | refine blk_drewN ?_ _ | refine blk_drew ?_ | refine blk_alloc ?_ _)); exact BK511.out) hb); have n13_ := Aside0.mk (blk_below (g := gb512) (o := .cells #[.slice A1_0 l1_0.length c1_0, .slice A1_1 l1_1.length c1_1] 27 (0, 0)) (by (with_reducible repeat (first | refine blk_drewN ?_ _ | refine blk_drew ?_ | refine blk_alloc ?_ _)); refine blk_far ?_ NB512_555.out _; (with_reducible repeat (first | refine blk_drewN ?_ _ | refine blk_drew ?_ | refine blk_alloc ?_ _)); refine blk_far ?_ NB512_555.out _; (with_reducible repeat (first | refine blk_drewN ?_ _ | refine blk_drew ?_ | refine blk_alloc ?_ _)); exact BK512.out) hb); have n14_ := Aside0.mk (blk_below (g := gb523) (o := .cells #[.slice Ao46 t516.length co46, .slice Ao50 t519.length co50] 27 (0, 0)) (by (with_reducible repeat (first | refine blk_drewN ?_ _ | refine blk_drew ?_ | refine blk_alloc ?_ _)); refine blk_far ?_ NB523_555.out _; (with_reducible repeat (first | refine blk_drewN ?_ _ | refine blk_drew ?_ | refine blk_alloc ?_ _)); refine blk_far ?_ NB523_555.out _; (with_reducible repeat (first | refine blk_drewN ?_ _ | refine blk_drew ?_ | refine blk_alloc ?_ _)); exact BK523.out) hb); have n15_ := Aside0.mk (blk_below (g := gb531) (o := .cells #[.slice Ao55 t524.length co55, .slice Ao60 t527.length co60] 27 (0, 0)) (by (with_reducible repeat (first | refine blk_drewN ?_ _ | refine blk_drew ?_ | refine blk_alloc ?_ _)); refine blk_far ?_ NB531_555.out _; (with_reducible repeat (first | refine blk_drewN ?_ _ | refine blk_drew ?_ | refine blk_alloc ?_ _)); refine blk_far ?_ NB531_555.out _; (with_reducible repeat (first | refine blk_drewN ?_ _ | refine blk_drew ?_ | refine blk_alloc ?_ _)); exact BK531.out) hb); have n16_ := Aside0.mk (blk_below (g := gb539) (o := .cells #[.slice Ao65 t532.length co65, .slice Ao71 t535.length co71] 27 (0, 0)) (by (with_reducible repeat (first | refine blk_drewN ?_ _ | refine blk_drew ?_ | refine blk_alloc ?_ _)); refine blk_far ?_ NB539_555.out _; (with_reducible repeat (first | refine blk_drewN ?_ _ | refine blk_drew ?_ | refine blk_alloc ?_ _)); refine blk_far ?_ NB539_555.out _; (with_reducible repeat (first | refine blk_drewN ?_ _ | refine blk_drew ?_ | refine blk_alloc ?_ _)); exact BK539.out) hb); have n17_ := Aside0.mk (blk_below (g := gb547) (o := .cells #[.slice Ao76 t540.length co76, .slice Ao83 t543.length co83] 27 (0, 0)) (by (with_reducible repeat (first | refine blk_drewN ?_ _ | refine blk_drew ?_ | refine blk_alloc ?_ _)); refine blk_far ?_ NB547_555.out _; (with_reducible repeat (first | refine blk_drewN ?_ _ | refine blk_drew ?_ | refine blk_alloc ?_ _)); refine blk_far ?_ NB547_555.out _; (with_reducible repeat (first | refine blk_drewN ?_ _ | refine blk_drew ?_ | refine blk_alloc ?_ _)); exact BK547.out) hb); have n18_ := Aside0.mk (blk_below (g := gb555) (o := .cells #[.slice Ao88 t548.length co88, .slice Ao96 t551.length co96] 27 (0, 0)) (by (with_reducible repeat (first | refine blk_drewN ?_ _ | refine blk_drew ?_ | refine blk_alloc ?_ _)); refine blk_put (cs := #[.slice Ao88 t548.length co88, .slice none 0 0]) ?_ 1 _ rfl; (with_reducible repeat (first | refine blk_drewN ?_ _ | refine blk_drew ?_ | refine blk_alloc ?_ _)); refine blk_put (cs := #[.slice none 0 0, .slice none 0 0]) ?_ 0 _ rfl; (with_reducible repeat (first | refine blk_drewN ?_ _ | refine blk_drew ?_ | refine blk_alloc ?_ _)); exact BK555.out) hb); have n19_ := Aside0.mk (below_step (zw7_ HB GE511 GE512 GE523 GE531 GE539 GE547 GE555) hb); clear HO518 HO521 HO526 HO529 HO534 HO537 HO542 HO545 HO550 HO553 BK511 BK512 BK523 BK531 BK539 BK547 BK555 HB; have HO518 := n0_; have HO521 := n1_; have HO526 := n2_; have HO529 := n3_; have HO534 := n4_; have HO537 := n5_; have HO542 := n6_; have HO545 := n7_; have HO550 := n8_; have HO553 := n9_; have HO558 := n10_; have HO561 := n11_; have BK511 := n12_; have BK512 := n13_; have BK523 := n14_; have BK531 := n15_; have BK539 := n16_; have BK547 := n17_; have BK555 := n18_; have HB := n19_; clear n0_ n1_ n2_ n3_ n4_ n5_ n6_ n7_ n8_ n9_ n10_ n11_ n12_ n13_ n14_ n15_ n16_ n17_ n18_ n19_; (try clear hb); (try clear hb2); (try clear hk); (try clear hi); (try clear ho0); (try clear ho1)) | ((with_reducible refine gate_dst (N := 15) rfl ?_); refine box_event ?hg (N := 15) ?hd (cs := #[.slice none 0 0, .slice none 0 0]) (t := 27) ?hr ?_; (case hd => rfl); (case hg => rfl); (case hr => first | (go_simp; done) | (go_simp; rfl)); intro gb563 hg w100 hbox hb; have n0_ := Aside0.mk (Kd.R_below (zr_ HO518.out) hb); have n1_ := Aside0.mk (Kd.R_below (zr_ HO521.out) hb); have n2_ := Aside0.mk (Kd.R_below (zr_ HO526.out) hb); have n3_ := Aside0.mk (Kd.R_below (zr_ HO529.out) hb); have n4_ := Aside0.mk (Kd.R_below (zr_ HO534.out) hb); have n5_ := Aside0.mk (Kd.R_below (zr_ HO537.out) hb); have n6_ := Aside0.mk (Kd.R_below (zr_ HO542.out) hb); have n7_ := Aside0.mk (Kd.R_below (zr_ HO545.out) hb); have n8_ := Aside0.mk (Kd.R_below (zr_ HO550.out) hb); have n9_ := Aside0.mk (Kd.R_below (zr_ HO553.out) hb); have n10_ := Aside0.mk (Kd.R_below (zr_ HO558.out) hb); have n11_ := Aside0.mk (Kd.R_below (zr_ HO561.out) hb); have n12_ := Aside0.mk (zl_ BK511 hb); have n13_ := Aside0.mk (zl_ BK512 hb); have n14_ := Aside0.mk (zl_ BK523 hb); have n15_ := Aside0.mk (zl_ BK531 hb); have n16_ := Aside0.mk (zl_ BK539 hb); have n17_ := Aside0.mk (zl_ BK547 hb); have n18_ := Aside0.mk (zl_ BK555 hb); have n19_ := Aside0.mk (below_step (zw7_ HB GE511 GE512 GE523 GE531 GE539 GE547 GE555) hb); have n20_ := Aside0.mk (hbox); have n21_ := Aside0.mk (zs_ hg (zw7_ HB GE511 GE512 GE523 GE531 GE539 GE547 GE555)); have n22_ := Aside0.mk (zs_ hg (zw7_ HB GE511 GE512 GE523 GE531 GE539 GE547 GE555)); have n23_ := Aside0.mk (zn_ hg BK511); have n24_ := Aside0.mk (zm_ hg BK511); have n25_ := Aside0.mk (zn_ hg BK512); have n26_ := Aside0.mk (zm_ hg BK512); have n27_ := Aside0.mk (zn_ hg BK523); have n28_ := Aside0.mk (zm_ hg BK523); have n29_ := Aside0.mk (zn_ hg BK531); have n30_ := Aside0.mk (zm_ hg BK531); have n31_ := Aside0.mk (zn_ hg BK539); have n32_ := Aside0.mk (zm_ hg BK539); have n33_ := Aside0.mk (zn_ hg BK547); have n34_ := Aside0.mk (zm_ hg BK547); have n35_ := Aside0.mk (zn_ hg BK555); have n36_ := Aside0.mk (zm_ hg BK555); clear HO518 HO521 HO526 HO529 HO534 HO537 HO542 HO545 HO550 HO553 HO558 HO561 BK511 BK512 BK523 BK531 BK539 BK547 BK555 HB; have HO518 := n0_; have HO521 := n1_; have HO526 := n2_; have HO529 := n3_; have HO534 := n4_; have HO537 := n5_; have HO542 := n6_; have HO545 := n7_; have HO550 := n8_; have HO553 := n9_; have HO558 := n10_; have HO561 := n11_; have BK511 := n12_; have BK512 := n13_; have BK523 := n14_; have BK531 := n15_; have BK539 := n16_; have BK547 := n17_; have BK555 := n18_; have HB := n19_; have BK563 := n20_; have GW563 := n21_; have GE563 := n22_; have NB511_563 := n23_; have NB563_511 := n24_; have NB512_563 := n25_; have NB563_512 := n26_; have NB523_563 := n27_; have NB563_523 := n28_; have NB531_563 := n29_; have NB563_531 := n30_; have NB539_563 := n31_; have NB563_539 := n32_; have NB547_563 := n33_; have NB563_547 := n34_; have NB555_563 := n35_; have NB563_555 := n36_; clear n0_ n1_ n2_ n3_ n4_ n5_ n6_ n7_ n8_ n9_ n10_ n11_ n12_ n13_ n14_ n15_ n16_ n17_ n18_ n19_ n20_ n21_ n22_ n23_ n24_ n25_ n26_ n27_ n28_ n29_ n30_ n31_ n32_ n33_ n34_ n35_ n36_; clear hb hbox hg; obtain ⟨Ao101, co101, eo101⟩ := Kd.R_slice HO558.out; subst eo101; have hnb102 := NB563_511.out; have hnc102 := NB511_563.out; have hnb103 := NB563_512.out; have hnc103 := NB512_563.out; have hnb104 := NB563_523.out; have hnc104 := NB523_563.out; have hnb105 := NB563_531.out; have hnc105 := NB531_563.out; have hnb106 := NB563_539.out; have hnc106 := NB539_563.out; have hnb107 := NB563_547.out; have hnc107 := NB547_563.out; have hnb108 := NB563_555.out; have hnc108 := NB555_563.out; have hcz109_0 := zx_ (v := .slice none 0 0) BK563 0; have hcz109_1 := zx_ (v := .slice none 0 0) BK563 1; have hfz109_0 := blk_frozen BK563.out 0; have hfz109_1 := blk_frozen BK563.out 1; obtain ⟨Ao110, co110, eo110⟩ := Kd.R_slice HO561.out; subst eo110))
            have n0_ : Aside0 (Kd.R (Kd.int .i64) 3 ((w100.setCell ⟨gb563, 0, none⟩ (.slice Ao101 t556.length co101)).setCell ⟨gb563, 1, none⟩ (.slice Ao110 t559.length co110)) w.heap.size (fun k_ => some k_ ≠ (.slice Ao55 t524.length co55 : Value).ownBlock ∧ some k_ ≠ (.slice Ao65 t532.length co65 : Value).ownBlock ∧ some k_ ≠ (.slice Ao76 t540.length co76 : Value).ownBlock ∧ some k_ ≠ (.slice Ao88 t548.length co88 : Value).ownBlock ∧ some k_ ≠ (.slice Ao101 t556.length co101 : Value).ownBlock) (.slice Ao46 t516.length co46) t516) := ⟨zr_ (Kd.R_mono (Kd.R_far (p := ⟨gb563, 1, none⟩) (Kd.R_far (p := ⟨gb563, 0, none⟩) (Kd.R_types HO518.out BK563.out (by decide)) (fun _ hk => hk.2) (.slice Ao101 t556.length co101)) (fun _ hk => hk.2) (.slice Ao110 t559.length co110)) (fun _ hk => ⟨hk.1.1.1.1.1.2, ⟨hk.1.1.1.1.2, ⟨hk.1.1.1.2, ⟨hk.1.1.2, hk.1.2⟩⟩⟩⟩))⟩
            have n1_ : Aside0 (Kd.R (Kd.int .i64) 23 ((w100.setCell ⟨gb563, 0, none⟩ (.slice Ao101 t556.length co101)).setCell ⟨gb563, 1, none⟩ (.slice Ao110 t559.length co110)) w.heap.size (fun k_ => some k_ ≠ (.slice Ao60 t527.length co60 : Value).ownBlock ∧ some k_ ≠ (.slice Ao71 t535.length co71 : Value).ownBlock ∧ some k_ ≠ (.slice Ao83 t543.length co83 : Value).ownBlock ∧ some k_ ≠ (.slice Ao96 t551.length co96 : Value).ownBlock ∧ some k_ ≠ (.slice Ao110 t559.length co110 : Value).ownBlock) (.slice Ao50 t519.length co50) t519) := ⟨zr_ (Kd.R_mono (Kd.R_far (p := ⟨gb563, 1, none⟩) (Kd.R_far (p := ⟨gb563, 0, none⟩) (Kd.R_types HO521.out BK563.out (by decide)) (fun _ hk => hk.2) (.slice Ao101 t556.length co101)) (fun _ hk => hk.2) (.slice Ao110 t559.length co110)) (fun _ hk => ⟨hk.1.1.1.1.1.2, ⟨hk.1.1.1.1.2, ⟨hk.1.1.1.2, ⟨hk.1.1.2, hk.1.2⟩⟩⟩⟩))⟩
            have n2_ : Aside0 (Kd.R (Kd.int .i64) 3 ((w100.setCell ⟨gb563, 0, none⟩ (.slice Ao101 t556.length co101)).setCell ⟨gb563, 1, none⟩ (.slice Ao110 t559.length co110)) w.heap.size (fun k_ => some k_ ≠ (.slice Ao46 t516.length co46 : Value).ownBlock ∧ some k_ ≠ (.slice Ao65 t532.length co65 : Value).ownBlock ∧ some k_ ≠ (.slice Ao76 t540.length co76 : Value).ownBlock ∧ some k_ ≠ (.slice Ao88 t548.length co88 : Value).ownBlock ∧ some k_ ≠ (.slice Ao101 t556.length co101 : Value).ownBlock) (.slice Ao55 t524.length co55) t524) := ⟨zr_ (Kd.R_mono (Kd.R_far (p := ⟨gb563, 1, none⟩) (Kd.R_far (p := ⟨gb563, 0, none⟩) (Kd.R_types HO526.out BK563.out (by decide)) (fun _ hk => hk.2) (.slice Ao101 t556.length co101)) (fun _ hk => hk.2) (.slice Ao110 t559.length co110)) (fun _ hk => ⟨hk.1.1.1.1.1.2, ⟨hk.1.1.1.1.2, ⟨hk.1.1.1.2, ⟨hk.1.1.2, hk.1.2⟩⟩⟩⟩))⟩
            have n3_ : Aside0 (Kd.R (Kd.int .i64) 23 ((w100.setCell ⟨gb563, 0, none⟩ (.slice Ao101 t556.length co101)).setCell ⟨gb563, 1, none⟩ (.slice Ao110 t559.length co110)) w.heap.size (fun k_ => some k_ ≠ (.slice Ao50 t519.length co50 : Value).ownBlock ∧ some k_ ≠ (.slice Ao71 t535.length co71 : Value).ownBlock ∧ some k_ ≠ (.slice Ao83 t543.length co83 : Value).ownBlock ∧ some k_ ≠ (.slice Ao96 t551.length co96 : Value).ownBlock ∧ some k_ ≠ (.slice Ao110 t559.length co110 : Value).ownBlock) (.slice Ao60 t527.length co60) t527) := ⟨zr_ (Kd.R_mono (Kd.R_far (p := ⟨gb563, 1, none⟩) (Kd.R_far (p := ⟨gb563, 0, none⟩) (Kd.R_types HO529.out BK563.out (by decide)) (fun _ hk => hk.2) (.slice Ao101 t556.length co101)) (fun _ hk => hk.2) (.slice Ao110 t559.length co110)) (fun _ hk => ⟨hk.1.1.1.1.1.2, ⟨hk.1.1.1.1.2, ⟨hk.1.1.1.2, ⟨hk.1.1.2, hk.1.2⟩⟩⟩⟩))⟩
            have n4_ : Aside0 (Kd.R (Kd.int .i64) 3 ((w100.setCell ⟨gb563, 0, none⟩ (.slice Ao101 t556.length co101)).setCell ⟨gb563, 1, none⟩ (.slice Ao110 t559.length co110)) w.heap.size (fun k_ => some k_ ≠ (.slice Ao46 t516.length co46 : Value).ownBlock ∧ some k_ ≠ (.slice Ao55 t524.length co55 : Value).ownBlock ∧ some k_ ≠ (.slice Ao76 t540.length co76 : Value).ownBlock ∧ some k_ ≠ (.slice Ao88 t548.length co88 : Value).ownBlock ∧ some k_ ≠ (.slice Ao101 t556.length co101 : Value).ownBlock) (.slice Ao65 t532.length co65) t532) := ⟨zr_ (Kd.R_mono (Kd.R_far (p := ⟨gb563, 1, none⟩) (Kd.R_far (p := ⟨gb563, 0, none⟩) (Kd.R_types HO534.out BK563.out (by decide)) (fun _ hk => hk.2) (.slice Ao101 t556.length co101)) (fun _ hk => hk.2) (.slice Ao110 t559.length co110)) (fun _ hk => ⟨hk.1.1.1.1.1.2, ⟨hk.1.1.1.1.2, ⟨hk.1.1.1.2, ⟨hk.1.1.2, hk.1.2⟩⟩⟩⟩))⟩
            have n5_ : Aside0 (Kd.R (Kd.int .i64) 23 ((w100.setCell ⟨gb563, 0, none⟩ (.slice Ao101 t556.length co101)).setCell ⟨gb563, 1, none⟩ (.slice Ao110 t559.length co110)) w.heap.size (fun k_ => some k_ ≠ (.slice Ao50 t519.length co50 : Value).ownBlock ∧ some k_ ≠ (.slice Ao60 t527.length co60 : Value).ownBlock ∧ some k_ ≠ (.slice Ao83 t543.length co83 : Value).ownBlock ∧ some k_ ≠ (.slice Ao96 t551.length co96 : Value).ownBlock ∧ some k_ ≠ (.slice Ao110 t559.length co110 : Value).ownBlock) (.slice Ao71 t535.length co71) t535) := ⟨zr_ (Kd.R_mono (Kd.R_far (p := ⟨gb563, 1, none⟩) (Kd.R_far (p := ⟨gb563, 0, none⟩) (Kd.R_types HO537.out BK563.out (by decide)) (fun _ hk => hk.2) (.slice Ao101 t556.length co101)) (fun _ hk => hk.2) (.slice Ao110 t559.length co110)) (fun _ hk => ⟨hk.1.1.1.1.1.2, ⟨hk.1.1.1.1.2, ⟨hk.1.1.1.2, ⟨hk.1.1.2, hk.1.2⟩⟩⟩⟩))⟩
            have n6_ : Aside0 (Kd.R (Kd.int .i64) 3 ((w100.setCell ⟨gb563, 0, none⟩ (.slice Ao101 t556.length co101)).setCell ⟨gb563, 1, none⟩ (.slice Ao110 t559.length co110)) w.heap.size (fun k_ => some k_ ≠ (.slice Ao46 t516.length co46 : Value).ownBlock ∧ some k_ ≠ (.slice Ao55 t524.length co55 : Value).ownBlock ∧ some k_ ≠ (.slice Ao65 t532.length co65 : Value).ownBlock ∧ some k_ ≠ (.slice Ao88 t548.length co88 : Value).ownBlock ∧ some k_ ≠ (.slice Ao101 t556.length co101 : Value).ownBlock) (.slice Ao76 t540.length co76) t540) := ⟨zr_ (Kd.R_mono (Kd.R_far (p := ⟨gb563, 1, none⟩) (Kd.R_far (p := ⟨gb563, 0, none⟩) (Kd.R_types HO542.out BK563.out (by decide)) (fun _ hk => hk.2) (.slice Ao101 t556.length co101)) (fun _ hk => hk.2) (.slice Ao110 t559.length co110)) (fun _ hk => ⟨hk.1.1.1.1.1.2, ⟨hk.1.1.1.1.2, ⟨hk.1.1.1.2, ⟨hk.1.1.2, hk.1.2⟩⟩⟩⟩))⟩
            have n7_ : Aside0 (Kd.R (Kd.int .i64) 23 ((w100.setCell ⟨gb563, 0, none⟩ (.slice Ao101 t556.length co101)).setCell ⟨gb563, 1, none⟩ (.slice Ao110 t559.length co110)) w.heap.size (fun k_ => some k_ ≠ (.slice Ao50 t519.length co50 : Value).ownBlock ∧ some k_ ≠ (.slice Ao60 t527.length co60 : Value).ownBlock ∧ some k_ ≠ (.slice Ao71 t535.length co71 : Value).ownBlock ∧ some k_ ≠ (.slice Ao96 t551.length co96 : Value).ownBlock ∧ some k_ ≠ (.slice Ao110 t559.length co110 : Value).ownBlock) (.slice Ao83 t543.length co83) t543) := ⟨zr_ (Kd.R_mono (Kd.R_far (p := ⟨gb563, 1, none⟩) (Kd.R_far (p := ⟨gb563, 0, none⟩) (Kd.R_types HO545.out BK563.out (by decide)) (fun _ hk => hk.2) (.slice Ao101 t556.length co101)) (fun _ hk => hk.2) (.slice Ao110 t559.length co110)) (fun _ hk => ⟨hk.1.1.1.1.1.2, ⟨hk.1.1.1.1.2, ⟨hk.1.1.1.2, ⟨hk.1.1.2, hk.1.2⟩⟩⟩⟩))⟩
            have n8_ : Aside0 (Kd.R (Kd.int .i64) 3 ((w100.setCell ⟨gb563, 0, none⟩ (.slice Ao101 t556.length co101)).setCell ⟨gb563, 1, none⟩ (.slice Ao110 t559.length co110)) w.heap.size (fun k_ => some k_ ≠ (.slice Ao46 t516.length co46 : Value).ownBlock ∧ some k_ ≠ (.slice Ao55 t524.length co55 : Value).ownBlock ∧ some k_ ≠ (.slice Ao65 t532.length co65 : Value).ownBlock ∧ some k_ ≠ (.slice Ao76 t540.length co76 : Value).ownBlock ∧ some k_ ≠ (.slice Ao101 t556.length co101 : Value).ownBlock) (.slice Ao88 t548.length co88) t548) := ⟨zr_ (Kd.R_mono (Kd.R_far (p := ⟨gb563, 1, none⟩) (Kd.R_far (p := ⟨gb563, 0, none⟩) (Kd.R_types HO550.out BK563.out (by decide)) (fun _ hk => hk.2) (.slice Ao101 t556.length co101)) (fun _ hk => hk.2) (.slice Ao110 t559.length co110)) (fun _ hk => ⟨hk.1.1.1.1.1.2, ⟨hk.1.1.1.1.2, ⟨hk.1.1.1.2, ⟨hk.1.1.2, hk.1.2⟩⟩⟩⟩))⟩
            have n9_ : Aside0 (Kd.R (Kd.int .i64) 23 ((w100.setCell ⟨gb563, 0, none⟩ (.slice Ao101 t556.length co101)).setCell ⟨gb563, 1, none⟩ (.slice Ao110 t559.length co110)) w.heap.size (fun k_ => some k_ ≠ (.slice Ao50 t519.length co50 : Value).ownBlock ∧ some k_ ≠ (.slice Ao60 t527.length co60 : Value).ownBlock ∧ some k_ ≠ (.slice Ao71 t535.length co71 : Value).ownBlock ∧ some k_ ≠ (.slice Ao83 t543.length co83 : Value).ownBlock ∧ some k_ ≠ (.slice Ao110 t559.length co110 : Value).ownBlock) (.slice Ao96 t551.length co96) t551) := ⟨zr_ (Kd.R_mono (Kd.R_far (p := ⟨gb563, 1, none⟩) (Kd.R_far (p := ⟨gb563, 0, none⟩) (Kd.R_types HO553.out BK563.out (by decide)) (fun _ hk => hk.2) (.slice Ao101 t556.length co101)) (fun _ hk => hk.2) (.slice Ao110 t559.length co110)) (fun _ hk => ⟨hk.1.1.1.1.1.2, ⟨hk.1.1.1.1.2, ⟨hk.1.1.1.2, ⟨hk.1.1.2, hk.1.2⟩⟩⟩⟩))⟩
            have n10_ : Aside0 (Kd.R (Kd.int .i64) 3 ((w100.setCell ⟨gb563, 0, none⟩ (.slice Ao101 t556.length co101)).setCell ⟨gb563, 1, none⟩ (.slice Ao110 t559.length co110)) w.heap.size (fun k_ => some k_ ≠ (.slice Ao46 t516.length co46 : Value).ownBlock ∧ some k_ ≠ (.slice Ao55 t524.length co55 : Value).ownBlock ∧ some k_ ≠ (.slice Ao65 t532.length co65 : Value).ownBlock ∧ some k_ ≠ (.slice Ao76 t540.length co76 : Value).ownBlock ∧ some k_ ≠ (.slice Ao88 t548.length co88 : Value).ownBlock) (.slice Ao101 t556.length co101) t556) := ⟨zr_ (Kd.R_mono (Kd.R_far (p := ⟨gb563, 1, none⟩) (Kd.R_far (p := ⟨gb563, 0, none⟩) (Kd.R_types HO558.out BK563.out (by decide)) (fun _ hk => hk.2) (.slice Ao101 t556.length co101)) (fun _ hk => hk.2) (.slice Ao110 t559.length co110)) (fun _ hk => ⟨hk.1.1.1.1.1.2, ⟨hk.1.1.1.1.2, ⟨hk.1.1.1.2, ⟨hk.1.1.2, hk.1.2⟩⟩⟩⟩))⟩
            have n11_ : Aside0 (Kd.R (Kd.int .i64) 23 ((w100.setCell ⟨gb563, 0, none⟩ (.slice Ao101 t556.length co101)).setCell ⟨gb563, 1, none⟩ (.slice Ao110 t559.length co110)) w.heap.size (fun k_ => some k_ ≠ (.slice Ao50 t519.length co50 : Value).ownBlock ∧ some k_ ≠ (.slice Ao60 t527.length co60 : Value).ownBlock ∧ some k_ ≠ (.slice Ao71 t535.length co71 : Value).ownBlock ∧ some k_ ≠ (.slice Ao83 t543.length co83 : Value).ownBlock ∧ some k_ ≠ (.slice Ao96 t551.length co96 : Value).ownBlock) (.slice Ao110 t559.length co110) t559) := ⟨zr_ (Kd.R_mono (Kd.R_far (p := ⟨gb563, 1, none⟩) (Kd.R_far (p := ⟨gb563, 0, none⟩) (Kd.R_types HO561.out BK563.out (by decide)) (fun _ hk => hk.2) (.slice Ao101 t556.length co101)) (fun _ hk => hk.2) (.slice Ao110 t559.length co110)) (fun _ hk => ⟨hk.1.1.1.1.1.2, ⟨hk.1.1.1.1.2, ⟨hk.1.1.1.2, ⟨hk.1.1.2, hk.1.2⟩⟩⟩⟩))⟩
            have n12_ : Aside0 (((w100.setCell ⟨gb563, 0, none⟩ (.slice Ao101 t556.length co101)).setCell ⟨gb563, 1, none⟩ (.slice Ao110 t559.length co110)).heap[gb511]? = some (.cells #[.slice A0_0 l0_0.length c0_0, .slice A0_1 l0_1.length c0_1] 27 (0, 0))) := ⟨by (with_reducible repeat (first | refine blk_drewN ?_ _ | refine blk_drew ?_ | refine blk_alloc ?_ _)); refine blk_far ?_ NB511_563.out _; (with_reducible repeat (first | refine blk_drewN ?_ _ | refine blk_drew ?_ | refine blk_alloc ?_ _)); refine blk_far ?_ NB511_563.out _; (with_reducible repeat (first | refine blk_drewN ?_ _ | refine blk_drew ?_ | refine blk_alloc ?_ _)); exact BK511.out⟩
            have n13_ : Aside0 (((w100.setCell ⟨gb563, 0, none⟩ (.slice Ao101 t556.length co101)).setCell ⟨gb563, 1, none⟩ (.slice Ao110 t559.length co110)).heap[gb512]? = some (.cells #[.slice A1_0 l1_0.length c1_0, .slice A1_1 l1_1.length c1_1] 27 (0, 0))) := ⟨by (with_reducible repeat (first | refine blk_drewN ?_ _ | refine blk_drew ?_ | refine blk_alloc ?_ _)); refine blk_far ?_ NB512_563.out _; (with_reducible repeat (first | refine blk_drewN ?_ _ | refine blk_drew ?_ | refine blk_alloc ?_ _)); refine blk_far ?_ NB512_563.out _; (with_reducible repeat (first | refine blk_drewN ?_ _ | refine blk_drew ?_ | refine blk_alloc ?_ _)); exact BK512.out⟩
            have n14_ : Aside0 (((w100.setCell ⟨gb563, 0, none⟩ (.slice Ao101 t556.length co101)).setCell ⟨gb563, 1, none⟩ (.slice Ao110 t559.length co110)).heap[gb523]? = some (.cells #[.slice Ao46 t516.length co46, .slice Ao50 t519.length co50] 27 (0, 0))) := ⟨by (with_reducible repeat (first | refine blk_drewN ?_ _ | refine blk_drew ?_ | refine blk_alloc ?_ _)); refine blk_far ?_ NB523_563.out _; (with_reducible repeat (first | refine blk_drewN ?_ _ | refine blk_drew ?_ | refine blk_alloc ?_ _)); refine blk_far ?_ NB523_563.out _; (with_reducible repeat (first | refine blk_drewN ?_ _ | refine blk_drew ?_ | refine blk_alloc ?_ _)); exact BK523.out⟩
            have n15_ : Aside0 (((w100.setCell ⟨gb563, 0, none⟩ (.slice Ao101 t556.length co101)).setCell ⟨gb563, 1, none⟩ (.slice Ao110 t559.length co110)).heap[gb531]? = some (.cells #[.slice Ao55 t524.length co55, .slice Ao60 t527.length co60] 27 (0, 0))) := ⟨by (with_reducible repeat (first | refine blk_drewN ?_ _ | refine blk_drew ?_ | refine blk_alloc ?_ _)); refine blk_far ?_ NB531_563.out _; (with_reducible repeat (first | refine blk_drewN ?_ _ | refine blk_drew ?_ | refine blk_alloc ?_ _)); refine blk_far ?_ NB531_563.out _; (with_reducible repeat (first | refine blk_drewN ?_ _ | refine blk_drew ?_ | refine blk_alloc ?_ _)); exact BK531.out⟩
            have n16_ : Aside0 (((w100.setCell ⟨gb563, 0, none⟩ (.slice Ao101 t556.length co101)).setCell ⟨gb563, 1, none⟩ (.slice Ao110 t559.length co110)).heap[gb539]? = some (.cells #[.slice Ao65 t532.length co65, .slice Ao71 t535.length co71] 27 (0, 0))) := ⟨by (with_reducible repeat (first | refine blk_drewN ?_ _ | refine blk_drew ?_ | refine blk_alloc ?_ _)); refine blk_far ?_ NB539_563.out _; (with_reducible repeat (first | refine blk_drewN ?_ _ | refine blk_drew ?_ | refine blk_alloc ?_ _)); refine blk_far ?_ NB539_563.out _; (with_reducible repeat (first | refine blk_drewN ?_ _ | refine blk_drew ?_ | refine blk_alloc ?_ _)); exact BK539.out⟩
            have n17_ : Aside0 (((w100.setCell ⟨gb563, 0, none⟩ (.slice Ao101 t556.length co101)).setCell ⟨gb563, 1, none⟩ (.slice Ao110 t559.length co110)).heap[gb547]? = some (.cells #[.slice Ao76 t540.length co76, .slice Ao83 t543.length co83] 27 (0, 0))) := ⟨by (with_reducible repeat (first | refine blk_drewN ?_ _ | refine blk_drew ?_ | refine blk_alloc ?_ _)); refine blk_far ?_ NB547_563.out _; (with_reducible repeat (first | refine blk_drewN ?_ _ | refine blk_drew ?_ | refine blk_alloc ?_ _)); refine blk_far ?_ NB547_563.out _; (with_reducible repeat (first | refine blk_drewN ?_ _ | refine blk_drew ?_ | refine blk_alloc ?_ _)); exact BK547.out⟩
            have n18_ : Aside0 (((w100.setCell ⟨gb563, 0, none⟩ (.slice Ao101 t556.length co101)).setCell ⟨gb563, 1, none⟩ (.slice Ao110 t559.length co110)).heap[gb555]? = some (.cells #[.slice Ao88 t548.length co88, .slice Ao96 t551.length co96] 27 (0, 0))) := ⟨by (with_reducible repeat (first | refine blk_drewN ?_ _ | refine blk_drew ?_ | refine blk_alloc ?_ _)); refine blk_far ?_ NB555_563.out _; (with_reducible repeat (first | refine blk_drewN ?_ _ | refine blk_drew ?_ | refine blk_alloc ?_ _)); refine blk_far ?_ NB555_563.out _; (with_reducible repeat (first | refine blk_drewN ?_ _ | refine blk_drew ?_ | refine blk_alloc ?_ _)); exact BK555.out⟩
            have n19_ : Aside0 (((w100.setCell ⟨gb563, 0, none⟩ (.slice Ao101 t556.length co101)).setCell ⟨gb563, 1, none⟩ (.slice Ao110 t559.length co110)).heap[gb563]? = some (.cells #[.slice Ao101 t556.length co101, .slice Ao110 t559.length co110] 27 (0, 0))) := ⟨by (with_reducible repeat (first | refine blk_drewN ?_ _ | refine blk_drew ?_ | refine blk_alloc ?_ _)); refine blk_put (cs := #[.slice Ao101 t556.length co101, .slice none 0 0]) ?_ 1 _ rfl; (with_reducible repeat (first | refine blk_drewN ?_ _ | refine blk_drew ?_ | refine blk_alloc ?_ _)); refine blk_put (cs := #[.slice none 0 0, .slice none 0 0]) ?_ 0 _ rfl; (with_reducible repeat (first | refine blk_drewN ?_ _ | refine blk_drew ?_ | refine blk_alloc ?_ _)); exact BK563.out⟩
            have n20_ : Aside0 (Below w.heap.size w ((w100.setCell ⟨gb563, 0, none⟩ (.slice Ao101 t556.length co101)).setCell ⟨gb563, 1, none⟩ (.slice Ao110 t559.length co110))) := ⟨zw8_ HB GE511 GE512 GE523 GE531 GE539 GE547 GE555 GE563⟩
            (try clear HO518)
            (try clear HO521)
            (try clear HO526)
            (try clear HO529)
            (try clear HO534)
            (try clear HO537)
            (try clear HO542)
            (try clear HO545)
            (try clear HO550)
            (try clear HO553)
            (try clear HO558)
            (try clear HO561)
            (try clear BK511)
            (try clear BK512)
            (try clear BK523)
            (try clear BK531)
            (try clear BK539)
            (try clear BK547)
            (try clear BK555)
            (try clear BK563)
            (try clear HB)
            generalize ((w100.setCell ⟨gb563, 0, none⟩ (.slice Ao101 t556.length co101)).setCell ⟨gb563, 1, none⟩ (.slice Ao110 t559.length co110)) = w111 at n0_ n1_ n2_ n3_ n4_ n5_ n6_ n7_ n8_ n9_ n10_ n11_ n12_ n13_ n14_ n15_ n16_ n17_ n18_ n19_ n20_ ⊢
            have HO518 := n0_
            have HO521 := n1_
            have HO526 := n2_
            have HO529 := n3_
            have HO534 := n4_
            have HO537 := n5_
            have HO542 := n6_
            have HO545 := n7_
            have HO550 := n8_
            have HO553 := n9_
            have HO558 := n10_
            have HO561 := n11_
            have BK511 := n12_
            have BK512 := n13_
            have BK523 := n14_
            have BK531 := n15_
            have BK539 := n16_
            have BK547 := n17_
            have BK555 := n18_
            have BK563 := n19_
            have HB := n20_
            clear n0_ n1_ n2_ n3_ n4_ n5_ n6_ n7_ n8_ n9_ n10_ n11_ n12_ n13_ n14_ n15_ n16_ n17_ n18_ n19_ n20_
            have n0_ := Aside0.mk (Kd.R_drew HO518.out)
            have n1_ := Aside0.mk (Kd.R_drew HO521.out)
            have n2_ := Aside0.mk (Kd.R_drew HO526.out)
            have n3_ := Aside0.mk (Kd.R_drew HO529.out)
            have n4_ := Aside0.mk (Kd.R_drew HO534.out)
            have n5_ := Aside0.mk (Kd.R_drew HO537.out)
            have n6_ := Aside0.mk (Kd.R_drew HO542.out)
            have n7_ := Aside0.mk (Kd.R_drew HO545.out)
            have n8_ := Aside0.mk (Kd.R_drew HO550.out)
            have n9_ := Aside0.mk (Kd.R_drew HO553.out)
            have n10_ := Aside0.mk (Kd.R_drew HO558.out)
            have n11_ := Aside0.mk (Kd.R_drew HO561.out)
            have n12_ := Aside0.mk (blk_drew BK511.out)
            have n13_ := Aside0.mk (blk_drew BK512.out)
            have n14_ := Aside0.mk (blk_drew BK523.out)
            have n15_ := Aside0.mk (blk_drew BK531.out)
            have n16_ := Aside0.mk (blk_drew BK539.out)
            have n17_ := Aside0.mk (blk_drew BK547.out)
            have n18_ := Aside0.mk (blk_drew BK555.out)
            have n19_ := Aside0.mk (blk_drew BK563.out)
            have n20_ := Aside0.mk (below_drew1 HB.out)
            clear HO518
            clear HO521
            clear HO526
            clear HO529
            clear HO534
            clear HO537
            clear HO542
            clear HO545
            clear HO550
            clear HO553
            clear HO558
            clear HO561
            clear BK511
            clear BK512
            clear BK523
            clear BK531
            clear BK539
            clear BK547
            clear BK555
            clear BK563
            clear HB
            have HO518 := n0_
            have HO521 := n1_
            have HO526 := n2_
            have HO529 := n3_
            have HO534 := n4_
            have HO537 := n5_
            have HO542 := n6_
            have HO545 := n7_
            have HO550 := n8_
            have HO553 := n9_
            have HO558 := n10_
            have HO561 := n11_
            have BK511 := n12_
            have BK512 := n13_
            have BK523 := n14_
            have BK531 := n15_
            have BK539 := n16_
            have BK547 := n17_
            have BK555 := n18_
            have BK563 := n19_
            have HB := n20_
            clear n0_ n1_ n2_ n3_ n4_ n5_ n6_ n7_ n8_ n9_ n10_ n11_ n12_ n13_ n14_ n15_ n16_ n17_ n18_ n19_ n20_
            refine start_ (n := 45) (S := fun w' => w'.cell? ⟨gb523, 0, none⟩ = some (.slice Ao46 t516.length co46) ∧ w'.cell? ⟨gb523, 1, none⟩ = some (.slice Ao50 t519.length co50) ∧ w'.cell? ⟨gb547, 0, none⟩ = some (.slice Ao76 t540.length co76) ∧ w'.cell? ⟨gb547, 1, none⟩ = some (.slice Ao83 t543.length co83) ∧ w'.cell? ⟨gb531, 0, none⟩ = some (.slice Ao55 t524.length co55) ∧ w'.cell? ⟨gb531, 1, none⟩ = some (.slice Ao60 t527.length co60) ∧ w'.cell? ⟨gb555, 0, none⟩ = some (.slice Ao88 t548.length co88) ∧ w'.cell? ⟨gb555, 1, none⟩ = some (.slice Ao96 t551.length co96) ∧ w'.cell? ⟨gb539, 0, none⟩ = some (.slice Ao65 t532.length co65) ∧ w'.cell? ⟨gb539, 1, none⟩ = some (.slice Ao71 t535.length co71) ∧ w'.cell? ⟨gb563, 0, none⟩ = some (.slice Ao101 t556.length co101) ∧ w'.cell? ⟨gb563, 1, none⟩ = some (.slice Ao110 t559.length co110) ∧ w'.cell? ⟨gb511, 0, none⟩ = some (.slice A0_0 l0_0.length c0_0) ∧ w'.cell? ⟨gb511, 1, none⟩ = some (.slice A0_1 l0_1.length c0_1) ∧ w'.cell? ⟨gb512, 0, none⟩ = some (.slice A1_0 l1_0.length c1_0) ∧ w'.cell? ⟨gb512, 1, none⟩ = some (.slice A1_1 l1_1.length c1_1)) (ds := []) #[false, false, false, false, false, false, false, false, false, false, false, false, false, false, false, false, false, false, false, false, false, false, false, false, false, false, false, false, false, false, false, false, false, false, false, false, false, false, false, false, false, false, false, false, false] (by kernel_rfl) rfl rfl ⟨(blk_cell BK523.out 0).trans rfl, (blk_cell BK523.out 1).trans rfl, (blk_cell BK547.out 0).trans rfl, (blk_cell BK547.out 1).trans rfl, (blk_cell BK531.out 0).trans rfl, (blk_cell BK531.out 1).trans rfl, (blk_cell BK555.out 0).trans rfl, (blk_cell BK555.out 1).trans rfl, (blk_cell BK539.out 0).trans rfl, (blk_cell BK539.out 1).trans rfl, (blk_cell BK563.out 0).trans rfl, (blk_cell BK563.out 1).trans rfl, (blk_cell BK511.out 0).trans rfl, (blk_cell BK511.out 1).trans rfl, (blk_cell BK512.out 0).trans rfl, (blk_cell BK512.out 1).trans rfl⟩ (fun hHeld => ?_); refine with_tabW carousellaw6_TensEach.tab11 carousellaw6_TensEach.bits11 (fun HT_ HW_ => ?_)
            generalize w111.drew = w112 at HO518 HO521 HO526 HO529 HO534 HO537 HO542 HO545 HO550 HO553 HO558 HO561 BK511 BK512 BK523 BK531 BK539 BK547 BK555 BK563 HB hHeld ⊢
            refine zp_ 0 (some 61) (h := ?_)
            refine zp_ 1 (some 62) (h := ?_)
            refine zp_ 2 (some 63) (h := ?_)
            refine zp_ 3 (some 64) (h := ?_)
            refine zp_ 4 (some 65) (h := ?_)
            refine zp_ 5 (some 66) (h := ?_)
            refine zp_ 6 (some 67) (h := ?_)
            refine zp_ 7 (some 68) (h := ?_)
            refine zp_ 8 (some 69) (h := ?_)
            refine zp_ 9 (some 70) (h := ?_)
            refine zp_ 10 (some 71) (h := ?_)
            refine zp_ 11 (some 72) (h := ?_)
            refine zp_ 12 (some 73) (h := ?_)
            refine zp_ 13 (some 74) (h := ?_)
            refine zt_ 14 (some 75) (hr := by rintro w' ⟨s0, s1, s2, s3, s4, s5, s6, s7, s8, s9, s10, s11, s12, s13, s14, s15⟩; go_simp; with_reducible rfl) (h := ?_)
            refine zt_ 15 (some 76) (hr := by rintro w' ⟨s0, s1, s2, s3, s4, s5, s6, s7, s8, s9, s10, s11, s12, s13, s14, s15⟩; go_simp; with_reducible rfl) (h := ?_)
            refine one_ (i := 16) (N := some 77) #[true, true, true, true, true, true, true, true, true, true, true, true, true, true, true, true, true, false, false, false, false, false, false, false, false, false, false, false, false, false, false, false, false, false, false, false, false, false, false, false, false, false, false, false, false] rfl rfl (one_of HT_.out (by kernel_rfl)) (by decide) (fun K hK => ?_)
            refine goes_ Try.func14 (by kernel_rfl) rfl #[.agg #[.slice Ao46 t516.length co46, .slice Ao50 t519.length co50], .agg #[.slice Ao76 t540.length co76, .slice Ao83 t543.length co83]] (by rfl) rfl rfl (by (try simp only [List.map_toArray, List.map_cons, List.map_nil]); first | done | rfl | (simp only [List.length_drop, List.length_take]; rfl)) ?_
            with_reducible refine (carouselref5_Alike.calls kj4 _ _ t516 _ _ t519 _ _ t540 _ _ t543 true _ ?side1 ?side2 ?side3 ?side4 ?side5 ?side6 ?side7 ?side8 A30.out).mono ?_
            (case side1 => exact zk_ ((Kd.R_reads' HO518.out).2.2))
            (case side2 => exact (Kd.R_reads' HO518.out).2.1)
            (case side3 => exact zk_ ((Kd.R_reads' HO521.out).2.2))
            (case side4 => exact (Kd.R_reads' HO521.out).2.1)
            (case side5 => exact zk_ ((Kd.R_reads' HO542.out).2.2))
            (case side6 => exact (Kd.R_reads' HO542.out).2.1)
            (case side7 => exact zk_ ((Kd.R_reads' HO545.out).2.2))
            (case side8 => exact (Kd.R_reads' HO545.out).2.1)
            rintro e w113 ⟨rfl, hb⟩
            refine ⟨_, rfl, ?_⟩
            have n0_ := Aside0.mk (Kd.R_below (zr_ HO518.out) hb)
            have n1_ := Aside0.mk (Kd.R_below (zr_ HO521.out) hb)
            have n2_ := Aside0.mk (Kd.R_below (zr_ HO526.out) hb)
            have n3_ := Aside0.mk (Kd.R_below (zr_ HO529.out) hb)
            have n4_ := Aside0.mk (Kd.R_below (zr_ HO534.out) hb)
            have n5_ := Aside0.mk (Kd.R_below (zr_ HO537.out) hb)
            have n6_ := Aside0.mk (Kd.R_below (zr_ HO542.out) hb)
            have n7_ := Aside0.mk (Kd.R_below (zr_ HO545.out) hb)
            have n8_ := Aside0.mk (Kd.R_below (zr_ HO550.out) hb)
            have n9_ := Aside0.mk (Kd.R_below (zr_ HO553.out) hb)
            have n10_ := Aside0.mk (Kd.R_below (zr_ HO558.out) hb)
            have n11_ := Aside0.mk (Kd.R_below (zr_ HO561.out) hb)
            have n12_ := Aside0.mk (zl_ BK511 hb)
            have n13_ := Aside0.mk (zl_ BK512 hb)
            have n14_ := Aside0.mk (zl_ BK523 hb)
            have n15_ := Aside0.mk (zl_ BK531 hb)
            have n16_ := Aside0.mk (zl_ BK539 hb)
            have n17_ := Aside0.mk (zl_ BK547 hb)
            have n18_ := Aside0.mk (zl_ BK555 hb)
            have n19_ := Aside0.mk (zl_ BK563 hb)
            have n20_ := Aside0.mk (below_step (zw8_ HB GE511 GE512 GE523 GE531 GE539 GE547 GE555 GE563) hb)
            clear HO518
            clear HO521
            clear HO526
            clear HO529
            clear HO534
            clear HO537
            clear HO542
            clear HO545
            clear HO550
            clear HO553
            clear HO558
            clear HO561
            clear BK511
            clear BK512
            clear BK523
            clear BK531
            clear BK539
            clear BK547
            clear BK555
            clear BK563
            clear HB
            have HO518 := n0_
            have HO521 := n1_
            have HO526 := n2_
            have HO529 := n3_
            have HO534 := n4_
            have HO537 := n5_
            have HO542 := n6_
            have HO545 := n7_
            have HO550 := n8_
            have HO553 := n9_
            have HO558 := n10_
            have HO561 := n11_
            have BK511 := n12_
            have BK512 := n13_
            have BK523 := n14_
            have BK531 := n15_
            have BK539 := n16_
            have BK547 := n17_
            have BK555 := n18_
            have BK563 := n19_
            have HB := n20_
            clear n0_ n1_ n2_ n3_ n4_ n5_ n6_ n7_ n8_ n9_ n10_ n11_ n12_ n13_ n14_ n15_ n16_ n17_ n18_ n19_ n20_
            (try clear hb)
            (try clear hb2)
            (try clear hk)
            (try clear hi)
            refine hK.out _ _ ⟨(blk_cell BK523.out 0).trans rfl, (blk_cell BK523.out 1).trans rfl, (blk_cell BK547.out 0).trans rfl, (blk_cell BK547.out 1).trans rfl, (blk_cell BK531.out 0).trans rfl, (blk_cell BK531.out 1).trans rfl, (blk_cell BK555.out 0).trans rfl, (blk_cell BK555.out 1).trans rfl, (blk_cell BK539.out 0).trans rfl, (blk_cell BK539.out 1).trans rfl, (blk_cell BK563.out 0).trans rfl, (blk_cell BK563.out 1).trans rfl, (blk_cell BK511.out 0).trans rfl, (blk_cell BK511.out 1).trans rfl, (blk_cell BK512.out 0).trans rfl, (blk_cell BK512.out 1).trans rfl⟩ (fun hHeld => ?_)
            clear hK K
            refine norm_ (a' := ?_) ?_ ?_
            rotate_left
            ·show Act.put _ (some 77) _ = _
             simp only [Act.put, List.setIfInBounds_toArray, List.set_cons_zero, List.set_cons_succ, i64_w, i32_w]
             rfl
            refine zp_ 17 (some 78) (h := ?_)
            refine zp_ 18 (some 79) (h := ?_)
            refine zt_ 19 (some 80) (hr := by rintro w' ⟨s0, s1, s2, s3, s4, s5, s6, s7, s8, s9, s10, s11, s12, s13, s14, s15⟩; go_simp; with_reducible rfl) (h := ?_)
            refine zt_ 20 (some 81) (hr := by rintro w' ⟨s0, s1, s2, s3, s4, s5, s6, s7, s8, s9, s10, s11, s12, s13, s14, s15⟩; go_simp; with_reducible rfl) (h := ?_)
            refine one_ (i := 21) (N := some 82) #[true, true, true, true, true, true, true, true, true, true, true, true, true, true, true, true, true, true, true, true, true, true, false, false, false, false, false, false, false, false, false, false, false, false, false, false, false, false, false, false, false, false, false, false, false] rfl rfl (one_of HT_.out (by kernel_rfl)) (by decide) (fun K hK => ?_)
            refine goes_ Try.func14 (by kernel_rfl) rfl #[.agg #[.slice Ao55 t524.length co55, .slice Ao60 t527.length co60], .agg #[.slice Ao88 t548.length co88, .slice Ao96 t551.length co96]] (by rfl) rfl rfl (by (try simp only [List.map_toArray, List.map_cons, List.map_nil]); first | done | rfl | (simp only [List.length_drop, List.length_take]; rfl)) ?_
            with_reducible refine (carouselref5_Alike.calls kj4 _ _ t524 _ _ t527 _ _ t548 _ _ t551 true _ ?side1 ?side2 ?side3 ?side4 ?side5 ?side6 ?side7 ?side8 A32.out).mono ?_
            (case side1 => exact zk_ ((Kd.R_reads' HO526.out).2.2))
            (case side2 => exact (Kd.R_reads' HO526.out).2.1)
            (case side3 => exact zk_ ((Kd.R_reads' HO529.out).2.2))
            (case side4 => exact (Kd.R_reads' HO529.out).2.1)
            (case side5 => exact zk_ ((Kd.R_reads' HO550.out).2.2))
            (case side6 => exact (Kd.R_reads' HO550.out).2.1)
            (case side7 => exact zk_ ((Kd.R_reads' HO553.out).2.2))
            (case side8 => exact (Kd.R_reads' HO553.out).2.1)
            rintro e w114 ⟨rfl, hb⟩
            refine ⟨_, rfl, ?_⟩
            have n0_ := Aside0.mk (Kd.R_below (zr_ HO518.out) hb)
            have n1_ := Aside0.mk (Kd.R_below (zr_ HO521.out) hb)
            have n2_ := Aside0.mk (Kd.R_below (zr_ HO526.out) hb)
            have n3_ := Aside0.mk (Kd.R_below (zr_ HO529.out) hb)
            have n4_ := Aside0.mk (Kd.R_below (zr_ HO534.out) hb)
            have n5_ := Aside0.mk (Kd.R_below (zr_ HO537.out) hb)
            have n6_ := Aside0.mk (Kd.R_below (zr_ HO542.out) hb)
            have n7_ := Aside0.mk (Kd.R_below (zr_ HO545.out) hb)
            have n8_ := Aside0.mk (Kd.R_below (zr_ HO550.out) hb)
            have n9_ := Aside0.mk (Kd.R_below (zr_ HO553.out) hb)
            have n10_ := Aside0.mk (Kd.R_below (zr_ HO558.out) hb)
            have n11_ := Aside0.mk (Kd.R_below (zr_ HO561.out) hb)
            have n12_ := Aside0.mk (zl_ BK511 hb)
            have n13_ := Aside0.mk (zl_ BK512 hb)
            have n14_ := Aside0.mk (zl_ BK523 hb)
            have n15_ := Aside0.mk (zl_ BK531 hb)
            have n16_ := Aside0.mk (zl_ BK539 hb)
            have n17_ := Aside0.mk (zl_ BK547 hb)
            have n18_ := Aside0.mk (zl_ BK555 hb)
            have n19_ := Aside0.mk (zl_ BK563 hb)
            have n20_ := Aside0.mk (below_step (zw8_ HB GE511 GE512 GE523 GE531 GE539 GE547 GE555 GE563) hb)
            clear HO518
            clear HO521
            clear HO526
            clear HO529
            clear HO534
            clear HO537
            clear HO542
            clear HO545
            clear HO550
            clear HO553
            clear HO558
            clear HO561
            clear BK511
            clear BK512
            clear BK523
            clear BK531
            clear BK539
            clear BK547
            clear BK555
            clear BK563
            clear HB
            have HO518 := n0_
            have HO521 := n1_
            have HO526 := n2_
            have HO529 := n3_
            have HO534 := n4_
            have HO537 := n5_
            have HO542 := n6_
            have HO545 := n7_
            have HO550 := n8_
            have HO553 := n9_
            have HO558 := n10_
            have HO561 := n11_
            have BK511 := n12_
            have BK512 := n13_
            have BK523 := n14_
            have BK531 := n15_
            have BK539 := n16_
            have BK547 := n17_
            have BK555 := n18_
            have BK563 := n19_
            have HB := n20_
            clear n0_ n1_ n2_ n3_ n4_ n5_ n6_ n7_ n8_ n9_ n10_ n11_ n12_ n13_ n14_ n15_ n16_ n17_ n18_ n19_ n20_
            (try clear hb)
            (try clear hb2)
            (try clear hk)
            (try clear hi)
            refine hK.out _ _ ⟨(blk_cell BK523.out 0).trans rfl, (blk_cell BK523.out 1).trans rfl, (blk_cell BK547.out 0).trans rfl, (blk_cell BK547.out 1).trans rfl, (blk_cell BK531.out 0).trans rfl, (blk_cell BK531.out 1).trans rfl, (blk_cell BK555.out 0).trans rfl, (blk_cell BK555.out 1).trans rfl, (blk_cell BK539.out 0).trans rfl, (blk_cell BK539.out 1).trans rfl, (blk_cell BK563.out 0).trans rfl, (blk_cell BK563.out 1).trans rfl, (blk_cell BK511.out 0).trans rfl, (blk_cell BK511.out 1).trans rfl, (blk_cell BK512.out 0).trans rfl, (blk_cell BK512.out 1).trans rfl⟩ (fun hHeld => ?_)
            clear hK K
            refine norm_ (a' := ?_) ?_ ?_
            rotate_left
            ·show Act.put _ (some 82) _ = _
             simp only [Act.put, List.setIfInBounds_toArray, List.set_cons_zero, List.set_cons_succ, i64_w, i32_w]
             rfl
            refine zp_ 22 (some 83) (h := ?_)
            refine zp_ 23 (some 84) (h := ?_)
            refine zt_ 24 (some 85) (hr := by rintro w' ⟨s0, s1, s2, s3, s4, s5, s6, s7, s8, s9, s10, s11, s12, s13, s14, s15⟩; go_simp; with_reducible rfl) (h := ?_)
            refine zt_ 25 (some 86) (hr := by rintro w' ⟨s0, s1, s2, s3, s4, s5, s6, s7, s8, s9, s10, s11, s12, s13, s14, s15⟩; go_simp; with_reducible rfl) (h := ?_)
            refine one_ (i := 26) (N := some 87) #[true, true, true, true, true, true, true, true, true, true, true, true, true, true, true, true, true, true, true, true, true, true, true, true, true, true, true, false, false, false, false, false, false, false, false, false, false, false, false, false, false, false, false, false, false] rfl rfl (one_of HT_.out (by kernel_rfl)) (by decide) (fun K hK => ?_)
            refine goes_ Try.func14 (by kernel_rfl) rfl #[.agg #[.slice Ao65 t532.length co65, .slice Ao71 t535.length co71], .agg #[.slice Ao101 t556.length co101, .slice Ao110 t559.length co110]] (by rfl) rfl rfl (by (try simp only [List.map_toArray, List.map_cons, List.map_nil]); first | done | rfl | (simp only [List.length_drop, List.length_take]; rfl)) ?_
            with_reducible refine (carouselref5_Alike.calls kj4 _ _ t532 _ _ t535 _ _ t556 _ _ t559 true _ ?side1 ?side2 ?side3 ?side4 ?side5 ?side6 ?side7 ?side8 A34.out).mono ?_
            (case side1 => exact zk_ ((Kd.R_reads' HO534.out).2.2))
            (case side2 => exact (Kd.R_reads' HO534.out).2.1)
            (case side3 => exact zk_ ((Kd.R_reads' HO537.out).2.2))
            (case side4 => exact (Kd.R_reads' HO537.out).2.1)
            (case side5 => exact zk_ ((Kd.R_reads' HO558.out).2.2))
            (case side6 => exact (Kd.R_reads' HO558.out).2.1)
            (case side7 => exact zk_ ((Kd.R_reads' HO561.out).2.2))
            (case side8 => exact (Kd.R_reads' HO561.out).2.1)
            rintro e w115 ⟨rfl, hb⟩
            refine ⟨_, rfl, ?_⟩
            have n0_ := Aside0.mk (Kd.R_below (zr_ HO518.out) hb)
            have n1_ := Aside0.mk (Kd.R_below (zr_ HO521.out) hb)
            have n2_ := Aside0.mk (Kd.R_below (zr_ HO526.out) hb)
            have n3_ := Aside0.mk (Kd.R_below (zr_ HO529.out) hb)
            have n4_ := Aside0.mk (Kd.R_below (zr_ HO534.out) hb)
            have n5_ := Aside0.mk (Kd.R_below (zr_ HO537.out) hb)
            have n6_ := Aside0.mk (Kd.R_below (zr_ HO542.out) hb)
            have n7_ := Aside0.mk (Kd.R_below (zr_ HO545.out) hb)
            have n8_ := Aside0.mk (Kd.R_below (zr_ HO550.out) hb)
            have n9_ := Aside0.mk (Kd.R_below (zr_ HO553.out) hb)
            have n10_ := Aside0.mk (Kd.R_below (zr_ HO558.out) hb)
            have n11_ := Aside0.mk (Kd.R_below (zr_ HO561.out) hb)
            have n12_ := Aside0.mk (zl_ BK511 hb)
            have n13_ := Aside0.mk (zl_ BK512 hb)
            have n14_ := Aside0.mk (zl_ BK523 hb)
            have n15_ := Aside0.mk (zl_ BK531 hb)
            have n16_ := Aside0.mk (zl_ BK539 hb)
            have n17_ := Aside0.mk (zl_ BK547 hb)
            have n18_ := Aside0.mk (zl_ BK555 hb)
            have n19_ := Aside0.mk (zl_ BK563 hb)
            have n20_ := Aside0.mk (below_step (zw8_ HB GE511 GE512 GE523 GE531 GE539 GE547 GE555 GE563) hb)
            clear HO518
            clear HO521
            clear HO526
            clear HO529
            clear HO534
            clear HO537
            clear HO542
            clear HO545
            clear HO550
            clear HO553
            clear HO558
            clear HO561
            clear BK511
            clear BK512
            clear BK523
            clear BK531
            clear BK539
            clear BK547
            clear BK555
            clear BK563
            clear HB
            have HO518 := n0_
            have HO521 := n1_
            have HO526 := n2_
            have HO529 := n3_
            have HO534 := n4_
            have HO537 := n5_
            have HO542 := n6_
            have HO545 := n7_
            have HO550 := n8_
            have HO553 := n9_
            have HO558 := n10_
            have HO561 := n11_
            have BK511 := n12_
            have BK512 := n13_
            have BK523 := n14_
            have BK531 := n15_
            have BK539 := n16_
            have BK547 := n17_
            have BK555 := n18_
            have BK563 := n19_
            have HB := n20_
            clear n0_ n1_ n2_ n3_ n4_ n5_ n6_ n7_ n8_ n9_ n10_ n11_ n12_ n13_ n14_ n15_ n16_ n17_ n18_ n19_ n20_
            (try clear hb)
            (try clear hb2)
            (try clear hk)
            (try clear hi)
            refine hK.out _ _ ⟨(blk_cell BK523.out 0).trans rfl, (blk_cell BK523.out 1).trans rfl, (blk_cell BK547.out 0).trans rfl, (blk_cell BK547.out 1).trans rfl, (blk_cell BK531.out 0).trans rfl, (blk_cell BK531.out 1).trans rfl, (blk_cell BK555.out 0).trans rfl, (blk_cell BK555.out 1).trans rfl, (blk_cell BK539.out 0).trans rfl, (blk_cell BK539.out 1).trans rfl, (blk_cell BK563.out 0).trans rfl, (blk_cell BK563.out 1).trans rfl, (blk_cell BK511.out 0).trans rfl, (blk_cell BK511.out 1).trans rfl, (blk_cell BK512.out 0).trans rfl, (blk_cell BK512.out 1).trans rfl⟩ (fun hHeld => ?_)
            clear hK K
            refine norm_ (a' := ?_) ?_ ?_
            rotate_left
            ·show Act.put _ (some 87) _ = _
             simp only [Act.put, List.setIfInBounds_toArray, List.set_cons_zero, List.set_cons_succ, i64_w, i32_w]
             rfl
            refine zp_ 27 (some 88) (h := ?_)
            refine zp_ 28 (some 89) (h := ?_)
            refine zt_ 29 (some 90) (hr := by rintro w' ⟨s0, s1, s2, s3, s4, s5, s6, s7, s8, s9, s10, s11, s12, s13, s14, s15⟩; go_simp; with_reducible rfl) (h := ?_)
            refine zt_ 31 (some 92) (hr := by rintro w' ⟨s0, s1, s2, s3, s4, s5, s6, s7, s8, s9, s10, s11, s12, s13, s14, s15⟩; go_simp; with_reducible rfl) (h := ?_)
            refine one_ (i := 30) (N := some 91) #[true, true, true, true, true, true, true, true, true, true, true, true, true, true, true, true, true, true, true, true, true, true, true, true, true, true, true, true, true, true, true, true, false, false, false, false, false, false, false, false, false, false, false, false, false] rfl rfl (one_of HT_.out (by kernel_rfl)) (by decide) (fun K hK => ?_)
            refine goes_ Try.func16 (by kernel_rfl) rfl #[.agg #[.slice A0_0 l0_0.length c0_0, .slice A0_1 l0_1.length c0_1]] (by rfl) rfl rfl (by (try simp only [List.map_toArray, List.map_cons, List.map_nil]); first | done | rfl | (simp only [List.length_drop, List.length_take]; rfl)) ?_
            with_reducible refine (tens_Good.calls kj4 _ _ l0_0 _ _ l0_1 t567 _ ?side1 ?side2 ?side3 ?side4 A36.out).mono ?_
            (case side1 => exact zk_ (Kd.C_below HR0_0.out HB.out))
            (case side2 => exact HC0_0.out)
            (case side3 => exact zk_ (Kd.C_below HR0_1.out HB.out))
            (case side4 => exact HC0_1.out)
            rintro e w116 ⟨rfl, hb⟩
            refine ⟨_, rfl, ?_⟩
            have n0_ := Aside0.mk (Kd.R_below (zr_ HO518.out) hb)
            have n1_ := Aside0.mk (Kd.R_below (zr_ HO521.out) hb)
            have n2_ := Aside0.mk (Kd.R_below (zr_ HO526.out) hb)
            have n3_ := Aside0.mk (Kd.R_below (zr_ HO529.out) hb)
            have n4_ := Aside0.mk (Kd.R_below (zr_ HO534.out) hb)
            have n5_ := Aside0.mk (Kd.R_below (zr_ HO537.out) hb)
            have n6_ := Aside0.mk (Kd.R_below (zr_ HO542.out) hb)
            have n7_ := Aside0.mk (Kd.R_below (zr_ HO545.out) hb)
            have n8_ := Aside0.mk (Kd.R_below (zr_ HO550.out) hb)
            have n9_ := Aside0.mk (Kd.R_below (zr_ HO553.out) hb)
            have n10_ := Aside0.mk (Kd.R_below (zr_ HO558.out) hb)
            have n11_ := Aside0.mk (Kd.R_below (zr_ HO561.out) hb)
            have n12_ := Aside0.mk (zl_ BK511 hb)
            have n13_ := Aside0.mk (zl_ BK512 hb)
            have n14_ := Aside0.mk (zl_ BK523 hb)
            have n15_ := Aside0.mk (zl_ BK531 hb)
            have n16_ := Aside0.mk (zl_ BK539 hb)
            have n17_ := Aside0.mk (zl_ BK547 hb)
            have n18_ := Aside0.mk (zl_ BK555 hb)
            have n19_ := Aside0.mk (zl_ BK563 hb)
            have n20_ := Aside0.mk (below_step (zw8_ HB GE511 GE512 GE523 GE531 GE539 GE547 GE555 GE563) hb)
            clear HO518
            clear HO521
            clear HO526
            clear HO529
            clear HO534
            clear HO537
            clear HO542
            clear HO545
            clear HO550
            clear HO553
            clear HO558
            clear HO561
            clear BK511
            clear BK512
            clear BK523
            clear BK531
            clear BK539
            clear BK547
            clear BK555
            clear BK563
            clear HB
            have HO518 := n0_
            have HO521 := n1_
            have HO526 := n2_
            have HO529 := n3_
            have HO534 := n4_
            have HO537 := n5_
            have HO542 := n6_
            have HO545 := n7_
            have HO550 := n8_
            have HO553 := n9_
            have HO558 := n10_
            have HO561 := n11_
            have BK511 := n12_
            have BK512 := n13_
            have BK523 := n14_
            have BK531 := n15_
            have BK539 := n16_
            have BK547 := n17_
            have BK555 := n18_
            have BK563 := n19_
            have HB := n20_
            clear n0_ n1_ n2_ n3_ n4_ n5_ n6_ n7_ n8_ n9_ n10_ n11_ n12_ n13_ n14_ n15_ n16_ n17_ n18_ n19_ n20_
            (try clear hb)
            (try clear hb2)
            (try clear hk)
            (try clear hi)
            refine hK.out _ _ ⟨(blk_cell BK523.out 0).trans rfl, (blk_cell BK523.out 1).trans rfl, (blk_cell BK547.out 0).trans rfl, (blk_cell BK547.out 1).trans rfl, (blk_cell BK531.out 0).trans rfl, (blk_cell BK531.out 1).trans rfl, (blk_cell BK555.out 0).trans rfl, (blk_cell BK555.out 1).trans rfl, (blk_cell BK539.out 0).trans rfl, (blk_cell BK539.out 1).trans rfl, (blk_cell BK563.out 0).trans rfl, (blk_cell BK563.out 1).trans rfl, (blk_cell BK511.out 0).trans rfl, (blk_cell BK511.out 1).trans rfl, (blk_cell BK512.out 0).trans rfl, (blk_cell BK512.out 1).trans rfl⟩ (fun hHeld => ?_)
            clear hK K
            refine norm_ (a' := ?_) ?_ ?_
            rotate_left
            ·show Act.put _ (some 91) _ = _
             simp only [Act.put, List.setIfInBounds_toArray, List.set_cons_zero, List.set_cons_succ, i64_w, i32_w]
             rfl
            refine one_ (i := 32) (N := some 93) #[true, true, true, true, true, true, true, true, true, true, true, true, true, true, true, true, true, true, true, true, true, true, true, true, true, true, true, true, true, true, true, true, true, false, false, false, false, false, false, false, false, false, false, false, false] rfl rfl (one_of HT_.out (by kernel_rfl)) (by decide) (fun K hK => ?_)
            refine goes_ Try.func18 (by kernel_rfl) rfl #[.agg #[.slice A0_0 l0_0.length c0_0, .slice A0_1 l0_1.length c0_1]] (by rfl) rfl rfl (by (try simp only [List.map_toArray, List.map_cons, List.map_nil]); first | done | rfl | (simp only [List.length_drop, List.length_take]; rfl)) ?_
            with_reducible refine (carouselref5_Is.calls kj4 _ _ l0_0 _ _ l0_1 t568 _ ?side1 ?side2 ?side3 ?side4 A37.out).mono ?_
            (case side1 => exact zk_ (Kd.C_below HR0_0.out HB.out))
            (case side2 => exact HC0_0.out)
            (case side3 => exact zk_ (Kd.C_below HR0_1.out HB.out))
            (case side4 => exact HC0_1.out)
            rintro e w117 ⟨rfl, hb⟩
            refine ⟨_, rfl, ?_⟩
            have n0_ := Aside0.mk (Kd.R_below (zr_ HO518.out) hb)
            have n1_ := Aside0.mk (Kd.R_below (zr_ HO521.out) hb)
            have n2_ := Aside0.mk (Kd.R_below (zr_ HO526.out) hb)
            have n3_ := Aside0.mk (Kd.R_below (zr_ HO529.out) hb)
            have n4_ := Aside0.mk (Kd.R_below (zr_ HO534.out) hb)
            have n5_ := Aside0.mk (Kd.R_below (zr_ HO537.out) hb)
            have n6_ := Aside0.mk (Kd.R_below (zr_ HO542.out) hb)
            have n7_ := Aside0.mk (Kd.R_below (zr_ HO545.out) hb)
            have n8_ := Aside0.mk (Kd.R_below (zr_ HO550.out) hb)
            have n9_ := Aside0.mk (Kd.R_below (zr_ HO553.out) hb)
            have n10_ := Aside0.mk (Kd.R_below (zr_ HO558.out) hb)
            have n11_ := Aside0.mk (Kd.R_below (zr_ HO561.out) hb)
            have n12_ := Aside0.mk (zl_ BK511 hb)
            have n13_ := Aside0.mk (zl_ BK512 hb)
            have n14_ := Aside0.mk (zl_ BK523 hb)
            have n15_ := Aside0.mk (zl_ BK531 hb)
            have n16_ := Aside0.mk (zl_ BK539 hb)
            have n17_ := Aside0.mk (zl_ BK547 hb)
            have n18_ := Aside0.mk (zl_ BK555 hb)
            have n19_ := Aside0.mk (zl_ BK563 hb)
            have n20_ := Aside0.mk (below_step (zw8_ HB GE511 GE512 GE523 GE531 GE539 GE547 GE555 GE563) hb)
            clear HO518
            clear HO521
            clear HO526
            clear HO529
            clear HO534
            clear HO537
            clear HO542
            clear HO545
            clear HO550
            clear HO553
            clear HO558
            clear HO561
            clear BK511
            clear BK512
            clear BK523
            clear BK531
            clear BK539
            clear BK547
            clear BK555
            clear BK563
            clear HB
            have HO518 := n0_
            have HO521 := n1_
            have HO526 := n2_
            have HO529 := n3_
            have HO534 := n4_
            have HO537 := n5_
            have HO542 := n6_
            have HO545 := n7_
            have HO550 := n8_
            have HO553 := n9_
            have HO558 := n10_
            have HO561 := n11_
            have BK511 := n12_
            have BK512 := n13_
            have BK523 := n14_
            have BK531 := n15_
            have BK539 := n16_
            have BK547 := n17_
            have BK555 := n18_
            have BK563 := n19_
            have HB := n20_
            clear n0_ n1_ n2_ n3_ n4_ n5_ n6_ n7_ n8_ n9_ n10_ n11_ n12_ n13_ n14_ n15_ n16_ n17_ n18_ n19_ n20_
            (try clear hb)
            (try clear hb2)
            (try clear hk)
            (try clear hi)
            refine hK.out _ _ ⟨(blk_cell BK523.out 0).trans rfl, (blk_cell BK523.out 1).trans rfl, (blk_cell BK547.out 0).trans rfl, (blk_cell BK547.out 1).trans rfl, (blk_cell BK531.out 0).trans rfl, (blk_cell BK531.out 1).trans rfl, (blk_cell BK555.out 0).trans rfl, (blk_cell BK555.out 1).trans rfl, (blk_cell BK539.out 0).trans rfl, (blk_cell BK539.out 1).trans rfl, (blk_cell BK563.out 0).trans rfl, (blk_cell BK563.out 1).trans rfl, (blk_cell BK511.out 0).trans rfl, (blk_cell BK511.out 1).trans rfl, (blk_cell BK512.out 0).trans rfl, (blk_cell BK512.out 1).trans rfl⟩ (fun hHeld => ?_)
            clear hK K
            refine norm_ (a' := ?_) ?_ ?_
            rotate_left
            ·show Act.put _ (some 93) _ = _
             simp only [Act.put, List.setIfInBounds_toArray, List.set_cons_zero, List.set_cons_succ, i64_w, i32_w]
             rfl
            refine zp_ 33 (some 94) (h := ?_)
            refine zp_ 34 (some 95) (h := ?_)
            refine zp_ 35 (some 96) (h := ?_)
            refine zt_ 36 (some 97) (hr := by rintro w' ⟨s0, s1, s2, s3, s4, s5, s6, s7, s8, s9, s10, s11, s12, s13, s14, s15⟩; go_simp; with_reducible rfl) (h := ?_)
            refine zt_ 37 (some 98) (hr := by rintro w' ⟨s0, s1, s2, s3, s4, s5, s6, s7, s8, s9, s10, s11, s12, s13, s14, s15⟩; go_simp; with_reducible rfl) (h := ?_)
            refine zt_ 39 (some 100) (hr := by rintro w' ⟨s0, s1, s2, s3, s4, s5, s6, s7, s8, s9, s10, s11, s12, s13, s14, s15⟩; go_simp; with_reducible rfl) (h := ?_)
            refine zt_ 40 (some 101) (hr := by rintro w' ⟨s0, s1, s2, s3, s4, s5, s6, s7, s8, s9, s10, s11, s12, s13, s14, s15⟩; go_simp; with_reducible rfl) (h := ?_)
            refine one_ (i := 38) (N := some 99) #[true, true, true, true, true, true, true, true, true, true, true, true, true, true, true, true, true, true, true, true, true, true, true, true, true, true, true, true, true, true, true, true, true, true, true, true, true, true, true, true, true, false, false, false, false] rfl rfl (one_of HT_.out (by kernel_rfl)) (by decide) (fun K hK => ?_)
            refine goes_ Try.func21 (by kernel_rfl) rfl #[.agg #[.slice A0_0 l0_0.length c0_0, .slice A0_1 l0_1.length c0_1], .agg #[.slice A1_0 l1_0.length c1_0, .slice A1_1 l1_1.length c1_1]] (by rfl) rfl rfl (by (try simp only [List.map_toArray, List.map_cons, List.map_nil]); first | done | rfl | (simp only [List.length_drop, List.length_take]; rfl)) ?_
            with_reducible refine (tens_Same.calls kj4 _ _ l0_0 _ _ l0_1 _ _ l1_0 _ _ l1_1 t569 _ ?side1 ?side2 ?side3 ?side4 ?side5 ?side6 ?side7 ?side8 A39.out).mono ?_
            (case side1 => exact zk_ (Kd.C_below HR0_0.out HB.out))
            (case side2 => exact HC0_0.out)
            (case side3 => exact zk_ (Kd.C_below HR0_1.out HB.out))
            (case side4 => exact HC0_1.out)
            (case side5 => exact zk_ (Kd.C_below HR1_0.out HB.out))
            (case side6 => exact HC1_0.out)
            (case side7 => exact zk_ (Kd.C_below HR1_1.out HB.out))
            (case side8 => exact HC1_1.out)
            rintro e w118 ⟨rfl, hb⟩
            refine ⟨_, rfl, ?_⟩
            have n0_ := Aside0.mk (Kd.R_below (zr_ HO518.out) hb)
            have n1_ := Aside0.mk (Kd.R_below (zr_ HO521.out) hb)
            have n2_ := Aside0.mk (Kd.R_below (zr_ HO526.out) hb)
            have n3_ := Aside0.mk (Kd.R_below (zr_ HO529.out) hb)
            have n4_ := Aside0.mk (Kd.R_below (zr_ HO534.out) hb)
            have n5_ := Aside0.mk (Kd.R_below (zr_ HO537.out) hb)
            have n6_ := Aside0.mk (Kd.R_below (zr_ HO542.out) hb)
            have n7_ := Aside0.mk (Kd.R_below (zr_ HO545.out) hb)
            have n8_ := Aside0.mk (Kd.R_below (zr_ HO550.out) hb)
            have n9_ := Aside0.mk (Kd.R_below (zr_ HO553.out) hb)
            have n10_ := Aside0.mk (Kd.R_below (zr_ HO558.out) hb)
            have n11_ := Aside0.mk (Kd.R_below (zr_ HO561.out) hb)
            have n12_ := Aside0.mk (zl_ BK511 hb)
            have n13_ := Aside0.mk (zl_ BK512 hb)
            have n14_ := Aside0.mk (zl_ BK523 hb)
            have n15_ := Aside0.mk (zl_ BK531 hb)
            have n16_ := Aside0.mk (zl_ BK539 hb)
            have n17_ := Aside0.mk (zl_ BK547 hb)
            have n18_ := Aside0.mk (zl_ BK555 hb)
            have n19_ := Aside0.mk (zl_ BK563 hb)
            have n20_ := Aside0.mk (below_step (zw8_ HB GE511 GE512 GE523 GE531 GE539 GE547 GE555 GE563) hb)
            clear HO518
            clear HO521
            clear HO526
            clear HO529
            clear HO534
            clear HO537
            clear HO542
            clear HO545
            clear HO550
            clear HO553
            clear HO558
            clear HO561
            clear BK511
            clear BK512
            clear BK523
            clear BK531
            clear BK539
            clear BK547
            clear BK555
            clear BK563
            clear HB
            have HO518 := n0_
            have HO521 := n1_
            have HO526 := n2_
            have HO529 := n3_
            have HO534 := n4_
            have HO537 := n5_
            have HO542 := n6_
            have HO545 := n7_
            have HO550 := n8_
            have HO553 := n9_
            have HO558 := n10_
            have HO561 := n11_
            have BK511 := n12_
            have BK512 := n13_
            have BK523 := n14_
            have BK531 := n15_
            have BK539 := n16_
            have BK547 := n17_
            have BK555 := n18_
            have BK563 := n19_
            have HB := n20_
            clear n0_ n1_ n2_ n3_ n4_ n5_ n6_ n7_ n8_ n9_ n10_ n11_ n12_ n13_ n14_ n15_ n16_ n17_ n18_ n19_ n20_
            (try clear hb)
            (try clear hb2)
            (try clear hk)
            (try clear hi)
            refine hK.out _ _ ⟨(blk_cell BK523.out 0).trans rfl, (blk_cell BK523.out 1).trans rfl, (blk_cell BK547.out 0).trans rfl, (blk_cell BK547.out 1).trans rfl, (blk_cell BK531.out 0).trans rfl, (blk_cell BK531.out 1).trans rfl, (blk_cell BK555.out 0).trans rfl, (blk_cell BK555.out 1).trans rfl, (blk_cell BK539.out 0).trans rfl, (blk_cell BK539.out 1).trans rfl, (blk_cell BK563.out 0).trans rfl, (blk_cell BK563.out 1).trans rfl, (blk_cell BK511.out 0).trans rfl, (blk_cell BK511.out 1).trans rfl, (blk_cell BK512.out 0).trans rfl, (blk_cell BK512.out 1).trans rfl⟩ (fun hHeld => ?_)
            clear hK K
            refine norm_ (a' := ?_) ?_ ?_
            rotate_left
            ·show Act.put _ (some 99) _ = _
             simp only [Act.put, List.setIfInBounds_toArray, List.set_cons_zero, List.set_cons_succ, i64_w, i32_w]
             rfl
            refine one_ (i := 41) (N := some 102) #[true, true, true, true, true, true, true, true, true, true, true, true, true, true, true, true, true, true, true, true, true, true, true, true, true, true, true, true, true, true, true, true, true, true, true, true, true, true, true, true, true, true, false, false, false] rfl rfl (one_of HT_.out (by kernel_rfl)) (by decide) (fun K hK => ?_)
            refine goes_ Try.func14 (by kernel_rfl) rfl #[.agg #[.slice A0_0 l0_0.length c0_0, .slice A0_1 l0_1.length c0_1], .agg #[.slice A1_0 l1_0.length c1_0, .slice A1_1 l1_1.length c1_1]] (by rfl) rfl rfl (by (try simp only [List.map_toArray, List.map_cons, List.map_nil]); first | done | rfl | (simp only [List.length_drop, List.length_take]; rfl)) ?_
            with_reducible refine (carouselref5_Alike.calls kj4 _ _ l0_0 _ _ l0_1 _ _ l1_0 _ _ l1_1 t570 _ ?side1 ?side2 ?side3 ?side4 ?side5 ?side6 ?side7 ?side8 A40.out).mono ?_
            (case side1 => exact zk_ (Kd.C_below HR0_0.out HB.out))
            (case side2 => exact HC0_0.out)
            (case side3 => exact zk_ (Kd.C_below HR0_1.out HB.out))
            (case side4 => exact HC0_1.out)
            (case side5 => exact zk_ (Kd.C_below HR1_0.out HB.out))
            (case side6 => exact HC1_0.out)
            (case side7 => exact zk_ (Kd.C_below HR1_1.out HB.out))
            (case side8 => exact HC1_1.out)
            rintro e w119 ⟨rfl, hb⟩
            refine ⟨_, rfl, ?_⟩
            have n0_ := Aside0.mk (Kd.R_below (zr_ HO518.out) hb)
            have n1_ := Aside0.mk (Kd.R_below (zr_ HO521.out) hb)
            have n2_ := Aside0.mk (Kd.R_below (zr_ HO526.out) hb)
            have n3_ := Aside0.mk (Kd.R_below (zr_ HO529.out) hb)
            have n4_ := Aside0.mk (Kd.R_below (zr_ HO534.out) hb)
            have n5_ := Aside0.mk (Kd.R_below (zr_ HO537.out) hb)
            have n6_ := Aside0.mk (Kd.R_below (zr_ HO542.out) hb)
            have n7_ := Aside0.mk (Kd.R_below (zr_ HO545.out) hb)
            have n8_ := Aside0.mk (Kd.R_below (zr_ HO550.out) hb)
            have n9_ := Aside0.mk (Kd.R_below (zr_ HO553.out) hb)
            have n10_ := Aside0.mk (Kd.R_below (zr_ HO558.out) hb)
            have n11_ := Aside0.mk (Kd.R_below (zr_ HO561.out) hb)
            have n12_ := Aside0.mk (zl_ BK511 hb)
            have n13_ := Aside0.mk (zl_ BK512 hb)
            have n14_ := Aside0.mk (zl_ BK523 hb)
            have n15_ := Aside0.mk (zl_ BK531 hb)
            have n16_ := Aside0.mk (zl_ BK539 hb)
            have n17_ := Aside0.mk (zl_ BK547 hb)
            have n18_ := Aside0.mk (zl_ BK555 hb)
            have n19_ := Aside0.mk (zl_ BK563 hb)
            have n20_ := Aside0.mk (below_step (zw8_ HB GE511 GE512 GE523 GE531 GE539 GE547 GE555 GE563) hb)
            clear HO518
            clear HO521
            clear HO526
            clear HO529
            clear HO534
            clear HO537
            clear HO542
            clear HO545
            clear HO550
            clear HO553
            clear HO558
            clear HO561
            clear BK511
            clear BK512
            clear BK523
            clear BK531
            clear BK539
            clear BK547
            clear BK555
            clear BK563
            clear HB
            have HO518 := n0_
            have HO521 := n1_
            have HO526 := n2_
            have HO529 := n3_
            have HO534 := n4_
            have HO537 := n5_
            have HO542 := n6_
            have HO545 := n7_
            have HO550 := n8_
            have HO553 := n9_
            have HO558 := n10_
            have HO561 := n11_
            have BK511 := n12_
            have BK512 := n13_
            have BK523 := n14_
            have BK531 := n15_
            have BK539 := n16_
            have BK547 := n17_
            have BK555 := n18_
            have BK563 := n19_
            have HB := n20_
            clear n0_ n1_ n2_ n3_ n4_ n5_ n6_ n7_ n8_ n9_ n10_ n11_ n12_ n13_ n14_ n15_ n16_ n17_ n18_ n19_ n20_
            (try clear hb)
            (try clear hb2)
            (try clear hk)
            (try clear hi)
            refine hK.out _ _ ⟨(blk_cell BK523.out 0).trans rfl, (blk_cell BK523.out 1).trans rfl, (blk_cell BK547.out 0).trans rfl, (blk_cell BK547.out 1).trans rfl, (blk_cell BK531.out 0).trans rfl, (blk_cell BK531.out 1).trans rfl, (blk_cell BK555.out 0).trans rfl, (blk_cell BK555.out 1).trans rfl, (blk_cell BK539.out 0).trans rfl, (blk_cell BK539.out 1).trans rfl, (blk_cell BK563.out 0).trans rfl, (blk_cell BK563.out 1).trans rfl, (blk_cell BK511.out 0).trans rfl, (blk_cell BK511.out 1).trans rfl, (blk_cell BK512.out 0).trans rfl, (blk_cell BK512.out 1).trans rfl⟩ (fun hHeld => ?_)
            clear hK K
            refine norm_ (a' := ?_) ?_ ?_
            rotate_left
            ·show Act.put _ (some 102) _ = _
             simp only [Act.put, List.setIfInBounds_toArray, List.set_cons_zero, List.set_cons_succ, i64_w, i32_w]
             rfl
            refine zp_ 42 (some 103) (h := ?_)
            refine zp_ 43 (some 104) (h := ?_)
            refine zp_ 44 (some 4) (h := ?_)
            refine done_ (done_of HT_.out (by kernel_rfl)) ?_
            try go_wp2
            go_ret
            exact ⟨by first | rfl | (simp [errW_none, errW_some] <;> rfl) | (simp [*, errW_none, errW_some] <;> rfl), zw8_ HB GE511 GE512 GE523 GE531 GE539 GE547 GE555 GE563⟩
           ·rw [if_neg c38] at H
            have c38b0 : (t567 == t568) = false := by simpa using c38
            (try (have c38b1 : decide (t567 = t568) = false := by simpa using c38))
            (try (have c38b2 : (t567 == t568) = false := by simpa using c38))
            (try (have c38b3 : ¬ (t567 = t568) := by simpa using c38))
            clear c38
            exact absurd H (by simp)
          ·replace c35 := Bool.eq_false_iff.mpr c35
           subst c35
           have H1 : (none) = some r := by rw [if_neg (show ¬ (false = true) by decide)] at H; exact H
           clear H
           have H := H1
           clear H1
           exact absurd H (by simp)
         ·replace c33 := Bool.eq_false_iff.mpr c33
          subst c33
          have H1 : (none) = some r := by rw [if_neg (show ¬ (false = true) by decide)] at H; exact H
          clear H
          have H := H1
          clear H1
          exact absurd H (by simp)
        ·replace c31 := Bool.eq_false_iff.mpr c31
         subst c31
         have H1 : (none) = some r := by rw [if_neg (show ¬ (false = true) by decide)] at H; exact H
         clear H
         have H := H1
         clear H1
         exact absurd H (by simp)
       ·rw [if_neg c29] at H
        have c29b0 : (t538 == t562) = false := beq_eq_false_iff_ne.mpr c29
        have c29b1 : (t538 != t562) = true := bne_iff_ne.mpr c29
        exact absurd H (by simp)
      ·rw [if_neg c28] at H
       have c28b0 : (t530 == t554) = false := beq_eq_false_iff_ne.mpr c28
       have c28b1 : (t530 != t554) = true := bne_iff_ne.mpr c28
       exact absurd H (by simp)
     ·rw [if_neg c27] at H
      have c27b0 : (t522 == t546) = false := beq_eq_false_iff_ne.mpr c27
      have c27b1 : (t522 != t546) = true := bne_iff_ne.mpr c27
      exact absurd H (by simp)
 ·replace c4 := Bool.eq_false_iff.mpr c4
  subst c4
  have H1 : (none) = some r := by rw [if_neg (show ¬ (false = true) by decide)] at H; exact H
  clear H
  have H := H1
  clear H1
  exact absurd H (by simp)

/-- THE ONE PURE STATEMENT of carousellaw6_TensEach. -/
def carousellaw6_TensEach.Pure : Prop := ∀ (l0_0 : List Int) (l0_1 : List Int) (l1_0 : List Int) (l1_1 : List Int), l0_0.length ≤ maxLen → (∀ x ∈ l0_0, (Lit.int .i64 x).wf = true) → l0_1.length ≤ maxLen → (∀ x ∈ l0_1, (Lit.int .i64 x).wf = true) → l1_0.length ≤ maxLen → (∀ x ∈ l1_0, (Lit.int .i64 x).wf = true) → l1_1.length ≤ maxLen → (∀ x ∈ l1_1, (Lit.int .i64 x).wf = true) → ∃ k, carousellaw6_TensEach.f k l0_0 l0_1 l1_0 l1_1 = some true

end Go.Proofs.Ytbdhabpplidgfaa.PTensEach
