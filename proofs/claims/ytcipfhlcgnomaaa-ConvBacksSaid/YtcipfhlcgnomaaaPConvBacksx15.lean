/- The functions that the law ConvBacks reaches, as Lean functions, and that each call of the Go function does what its Lean function says, wherever that one answers. Written by a program of mine over the print of the kit; Lean checks it. -/
import Derived.Test.YtcipfhlcgnomaaaPConvBacksx0
import Derived.Test.YtcipfhlcgnomaaaPConvBacksx6
import Derived.Test.YtcipfhlcgnomaaaPConvBacksx7
import Derived.Test.YtcipfhlcgnomaaaPConvBacksx8
import Derived.Test.YtcipfhlcgnomaaaPConvBacksx12
import Derived.Test.YtcipfhlcgnomaaaPConvBacksx13
import Derived.Test.YtcipfhlcgnomaaaPConvBacksx14
namespace Go.Proofs.Ytcipfhlcgnomaaa.PConvBacks
open Go.RowKit Go.Proofs.YtcipfhlcgnomaaaW.PrintWords Go.Proofs.YtcipfhlcgnomaaaW.PrintLast Go.Proofs.YtcipfhlcgnomaaaW.PrintMore
attribute [local go_sem] max2_int min2_int max_two min_two max_three min_three max_four min_four   -- for this text's walks alone
set_option linter.unusedVariables false
set_option linter.unusedSimpArgs false

/-! ### carousellaw8_ConvBacks: function 9 -/
def carousellaw8_ConvBacks.j0 : Nat → Int → Int → Bool → List Int → List Int → List Int → List Int → Option (Bool)
 | 0, _, _, _, _, _, _, _ => none
 | k + 1, x2, x3, x28, x442000, x442001, x443000, x443001 => if x28 = true then (some true) else ((conv_BackIn.f k x442000 x442001 x443000 x443001 x2 x3).bind fun bt446 => ((carouselref5_BackIn.f k x442000 x442001 x443000 x443001 x2 x3).bind fun bt454 => ((conv_BackKernel.f k x442000 x442001 x443000 x443001 x2 x3).bind fun bt462 => ((carouselref5_BackKernel.f k x442000 x442001 x443000 x443001 x2 x3).bind fun bt470 => (if bt446.2.2 = bt454.2.2 then ((carouselref5_Alike.f k bt446.1 bt446.2.1 bt454.1 bt454.2.1).bind fun t478 => (if t478 = true then (if bt462.2.2 = bt470.2.2 then ((carouselref5_Alike.f k bt462.1 bt462.2.1 bt470.1 bt470.2.1).bind fun t479 => (some t479)) else (none)) else (none))) else (none))))))
def carousellaw8_ConvBacks.f (k : Nat) (l0_0 : List Int) (l0_1 : List Int) (l1_0 : List Int) (l1_1 : List Int) (a2 : Int) (a3 : Int) : Option (Bool) := (carousellaw8_awake.f k).bind fun t443 => (if t443 = true then ((carousellaw8_great.f l0_0 l0_1 120).bind fun t444 => (if t444 = true then (carousellaw8_ConvBacks.j0 k a2 a3 true l0_0 l0_1 l1_0 l1_1) else ((carousellaw8_great.f l1_0 l1_1 120).bind fun t445 => (if t445 = true then (carousellaw8_ConvBacks.j0 k a2 a3 true l0_0 l0_1 l1_0 l1_1) else (carousellaw8_ConvBacks.j0 k a2 a3 (decide (a3 > 300)) l0_0 l0_1 l1_0 l1_1))))) else (none))
theorem carousellaw8_ConvBacks.mono_l : ∀ k, (∀ y0 y1 y2 y3 y4 y5 y6, LeO (carousellaw8_ConvBacks.j0 k y0 y1 y2 y3 y4 y5 y6) (carousellaw8_ConvBacks.j0 (k + 1) y0 y1 y2 y3 y4 y5 y6))
 | 0 => fun _ _ _ _ _ _ _ r h => by simp [carousellaw8_ConvBacks.j0] at h
 | k + 1 => by
  have ih0 := carousellaw8_ConvBacks.mono_l k
  ·intro y0 y1 y2 y3 y4 y5 y6
   unfold carousellaw8_ConvBacks.j0
   repeat' first
   | (with_reducible exact ih0 _ _ _ _ _ _ _)
   | (with_reducible exact carouselref5_Alike.mono _ _ _ _ _)
   | (with_reducible exact carouselref5_BackIn.mono _ _ _ _ _ _ _)
   | (with_reducible exact carouselref5_BackKernel.mono _ _ _ _ _ _ _)
   | (with_reducible exact conv_BackIn.mono _ _ _ _ _ _ _)
   | (with_reducible exact conv_BackKernel.mono _ _ _ _ _ _ _)
   | (with_reducible exact LeO.refl _)
   | (with_reducible exact LeO.none _)
   | (with_reducible refine LeO.ite ?_ ?_)
   | (with_reducible refine LeO.bind ?_ (fun _ => ?_))
   | exact ih0 _ _ _ _ _ _ _
   | exact carouselref5_Alike.mono _ _ _ _ _
   | exact carouselref5_BackIn.mono _ _ _ _ _ _ _
   | exact carouselref5_BackKernel.mono _ _ _ _ _ _ _
   | exact conv_BackIn.mono _ _ _ _ _ _ _
   | exact conv_BackKernel.mono _ _ _ _ _ _ _
   | exact LeO.none _
   | refine LeO.ite ?_ ?_
   | refine LeO.bind ?_ (fun _ => ?_)
theorem carousellaw8_ConvBacks.mono : ∀ a0 a1 a2 a3 a4 a5 k, LeO (carousellaw8_ConvBacks.f k a0 a1 a2 a3 a4 a5) (carousellaw8_ConvBacks.f (k + 1) a0 a1 a2 a3 a4 a5) := by
 intro a0 a1 a2 a3 a4 a5 k
 have ih0 := carousellaw8_ConvBacks.mono_l k
 unfold carousellaw8_ConvBacks.f
 repeat' first
   | (with_reducible exact ih0 _ _ _ _ _ _ _)
   | (with_reducible exact carousellaw8_awake.mono _)
   | (with_reducible exact LeO.refl _)
   | (with_reducible exact LeO.none _)
   | (with_reducible refine LeO.ite ?_ ?_)
   | (with_reducible refine LeO.bind ?_ (fun _ => ?_))
   | exact ih0 _ _ _ _ _ _ _
   | exact carousellaw8_awake.mono _
   | exact LeO.none _
   | refine LeO.ite ?_ ?_
   | refine LeO.bind ?_ (fun _ => ?_)
set_option maxHeartbeats 8000000 in
set_option maxRecDepth 100000 in
theorem carousellaw8_ConvBacks.calls (k : Nat) (A0_0 : Option Addr) (c0_0 : Nat) (l0_0 : List Int) (A0_1 : Option Addr) (c0_1 : Nat) (l0_1 : List Int) (A1_0 : Option Addr) (c1_0 : Nat) (l1_0 : List Int) (A1_1 : Option Addr) (c1_1 : Nat) (l1_1 : List Int) (a2 : Int) (a3 : Int) (r : Bool) (w : World) (hr0_0 : Kd.C (Kd.int .i64) w A0_0 l0_0.length l0_0) (hc0_0 : l0_0.length ≤ c0_0) (hr0_1 : Kd.C (Kd.int .i64) w A0_1 l0_1.length l0_1) (hc0_1 : l0_1.length ≤ c0_1) (hr1_0 : Kd.C (Kd.int .i64) w A1_0 l1_0.length l1_0) (hc1_0 : l1_0.length ≤ c1_0) (hr1_1 : Kd.C (Kd.int .i64) w A1_1 l1_1.length l1_1) (hc1_1 : l1_1.length ≤ c1_1) (h : carousellaw8_ConvBacks.f k l0_0 l0_1 l1_0 l1_1 a2 a3 = some r) :
  Calls Try.prog 9 #[.agg #[.slice A0_0 l0_0.length c0_0, .slice A0_1 l0_1.length c0_1], .agg #[.slice A1_0 l1_0.length c1_0, .slice A1_1 l1_1.length c1_1], .int .i64 a2, .int .i64 a3] w fun e w' => e = .returned (.bool r) ∧ Below w.heap.size w w' := by
 have hu25 := Try.underlying25
 have HR0_0 := Aside0.mk hr0_0
 have HC0_0 := Aside0.mk hc0_0
 clear hr0_0 hc0_0
 have HR0_1 := Aside0.mk hr0_1
 have HC0_1 := Aside0.mk hc0_1
 clear hr0_1 hc0_1
 have HR1_0 := Aside0.mk hr1_0
 have HC1_0 := Aside0.mk hc1_0
 clear hr1_0 hc1_0
 have HR1_1 := Aside0.mk hr1_1
 have HC1_1 := Aside0.mk hc1_1
 clear hr1_1 hc1_1
 have HB := Aside0.mk (Below.refl w.heap.size w)
 have H : ((carousellaw8_awake.f k).bind fun t443 => (if t443 = true then ((carousellaw8_great.f l0_0 l0_1 120).bind fun t444 => (if t444 = true then (carousellaw8_ConvBacks.j0 k a2 a3 true l0_0 l0_1 l1_0 l1_1) else ((carousellaw8_great.f l1_0 l1_1 120).bind fun t445 => (if t445 = true then (carousellaw8_ConvBacks.j0 k a2 a3 true l0_0 l0_1 l1_0 l1_1) else (carousellaw8_ConvBacks.j0 k a2 a3 (decide (a3 > 300)) l0_0 l0_1 l1_0 l1_1))))) else (none))) = some r := h
 clear h
 replace H := Option.bind_eq_some_iff.mp H
 obtain ⟨t443, A50, H⟩ := H
 (try dsimp only at H)
 have A5 := Aside0.mk A50
 clear A50
 by_cases c6 : t443 = true
 rotate_left
 ·replace c6 := Bool.eq_false_iff.mpr c6
  subst c6
  have H1 : (none) = some r := by rw [if_neg (show ¬ (false = true) by decide)] at H; exact H
  clear H
  have H := H1
  clear H1
  exact absurd H (by simp)
 subst c6
 have H1 := H
 rw [if_pos rfl] at H1
 clear H
 have H := H1
 clear H1
 have HC7 := Aside0.mk H
 clear H
 go_enter Try.func9, Try.ntmps9
 go_upto_region 3 with (first | ((with_reducible refine gate_dst (N := 4) rfl ?_); refine box_event ?hg (N := 4) ?hd (cs := #[.slice A0_0 l0_0.length c0_0, .slice A0_1 l0_1.length c0_1]) (t := 25) ?hr ?_; (case hd => rfl); (case hg => rfl); (case hr => first | (go_simp; done) | (go_simp; rfl)); intro gb441 hg w8 hbox hb; have BK441 := Aside0.mk (hbox); have GW441 := Aside0.mk (zs_ hg (zw0_ HB)); have GE441 := Aside0.mk (zs_ hg (zw0_ HB)); replace HB := Aside0.mk (below_step (zw0_ HB) hb); clear hb hbox hg) | ((with_reducible refine gate_dst (N := 5) rfl ?_); refine box_event ?hg (N := 5) ?hd (cs := #[.slice A1_0 l1_0.length c1_0, .slice A1_1 l1_1.length c1_1]) (t := 25) ?hr ?_; (case hd => rfl); (case hg => rfl); (case hr => first | (go_simp; done) | (go_simp; rfl)); intro gb442 hg w9 hbox hb; have BK442 := Aside0.mk (hbox); have GW442 := Aside0.mk (zs_ hg (zw1_ HB GE441)); have GE442 := Aside0.mk (zs_ hg (zw1_ HB GE441)); replace HB := Aside0.mk (below_step (zw1_ HB GE441) hb); have NB441_442 := Aside0.mk (zn_ hg BK441); have NB442_441 := Aside0.mk (zm_ hg BK441); replace BK441 := za_ BK441 hb; clear hb hbox hg) | ((with_reducible refine gate_callee (f := 11) rfl ?_); refine zg_ (some 17) Try.func11 #[] (h := ?_); (with_reducible refine (carousellaw8_awake.calls k  true _ A5.out).mono ?_); rintro e w10 ⟨rfl, hb⟩; refine ⟨_, rfl, ?_⟩; replace BK441 := za_ BK441 hb; replace BK442 := za_ BK442 hb; replace HB := Aside0.mk (below_step (zw2_ HB GE441 GE442) hb); (try clear hb)))
 (try simp only [Act.put, List.setIfInBounds_toArray, List.set_cons_zero, List.set_cons_succ])
 go_cut [28] (fun v28 wc => ∃ (kq : Nat) (x28_6 : Bool), v28 = .bool x28_6 ∧ Aside0 (carousellaw8_ConvBacks.j0 kq a2 a3 x28_6 l0_0 l0_1 l1_0 l1_1 = some r) ∧ Aside0 (kq ≤ k) ∧ Aside0 (wc.heap[gb441]? = some (.cells #[(.slice A0_0 l0_0.length c0_0), (.slice A0_1 l0_1.length c0_1)] 25 (0, 0))) ∧ Aside0 (wc.heap[gb442]? = some (.cells #[(.slice A1_0 l1_0.length c1_0), (.slice A1_1 l1_1.length c1_1)] 25 (0, 0))) ∧ Aside0 (Below w.heap.size w wc))
 case first =>
  have H := HC7.out
  clear HC7
  replace H := Option.bind_eq_some_iff.mp H
  obtain ⟨t444, A110, H⟩ := H
  (try dsimp only at H)
  have A11 := Aside0.mk A110
  clear A110
  by_cases c12 : t444 = true
  ·subst c12
   have H1 : (carousellaw8_ConvBacks.j0 k a2 a3 true l0_0 l0_1 l1_0 l1_1) = some r := by rw [if_pos rfl] at H; exact H
   clear H
   have H := H1
   clear H1
   have H' := Aside0.mk H
   clear H
   have hnb13 := NB441_442.out
   have hnc13 := NB442_441.out
   have hcz14_0 := zx_ (v := .slice A0_0 l0_0.length c0_0) BK441 0
   have hcz14_1 := zx_ (v := .slice A0_1 l0_1.length c0_1) BK441 1
   have hfz14_0 := blk_frozen BK441.out 0
   have hfz14_1 := blk_frozen BK441.out 1
   go_wp2_with (first | ((with_reducible refine gate_callee (f := 12) rfl ?_); refine zg_ (some 20) Try.func12 #[.agg #[.slice A0_0 l0_0.length c0_0, .slice A0_1 l0_1.length c0_1], .int .i64 120] (h := ?_); (with_reducible refine (carousellaw8_great.calls _ _ l0_0 _ _ l0_1 120 true _ ?side1 ?side2 ?side3 ?side4 A11.out).mono ?_); (case side1 => exact zk_ (Kd.C_below HR0_0.out HB.out)); (case side2 => exact HC0_0.out); (case side3 => exact zk_ (Kd.C_below HR0_1.out HB.out)); (case side4 => exact HC0_1.out); rintro e w15 ⟨rfl, hb⟩; refine ⟨_, rfl, ?_⟩; replace BK441 := za_ BK441 hb; replace BK442 := za_ BK442 hb; replace HB := Aside0.mk (below_step (zw2_ HB GE441 GE442) hb); (try clear hb)))
   go_meet
   case rel => exact ⟨_, (true), z1_, H', ⟨by first | omega | exact Nat.le_refl _⟩, ⟨zb_ BK441⟩, ⟨zb_ BK442⟩, ⟨zw2_ HB GE441 GE442⟩⟩
  replace c12 := Bool.eq_false_iff.mpr c12
  subst c12
  have H1 := H
  rw [if_neg (show ¬ (false = true) by decide)] at H1
  clear H
  have H := H1
  clear H1
  replace H := Option.bind_eq_some_iff.mp H
  obtain ⟨t445, A160, H⟩ := H
  (try dsimp only at H)
  have A16 := Aside0.mk A160
  clear A160
  by_cases c17 : t445 = true
  ·subst c17
   have H1 : (carousellaw8_ConvBacks.j0 k a2 a3 true l0_0 l0_1 l1_0 l1_1) = some r := by rw [if_pos rfl] at H; exact H
   clear H
   have H := H1
   clear H1
   have H' := Aside0.mk H
   clear H
   have hnb18 := NB441_442.out
   have hnc18 := NB442_441.out
   have hcz19_0 := zx_ (v := .slice A0_0 l0_0.length c0_0) BK441 0
   have hcz19_1 := zx_ (v := .slice A0_1 l0_1.length c0_1) BK441 1
   have hfz19_0 := blk_frozen BK441.out 0
   have hfz19_1 := blk_frozen BK441.out 1
   go_wp2_with (first | ((with_reducible refine gate_callee (f := 12) rfl ?_); refine zg_ (some 20) Try.func12 #[.agg #[.slice A0_0 l0_0.length c0_0, .slice A0_1 l0_1.length c0_1], .int .i64 120] (h := ?_); (with_reducible refine (carousellaw8_great.calls _ _ l0_0 _ _ l0_1 120 false _ ?side1 ?side2 ?side3 ?side4 A11.out).mono ?_); (case side1 => exact zk_ (Kd.C_below HR0_0.out HB.out)); (case side2 => exact HC0_0.out); (case side3 => exact zk_ (Kd.C_below HR0_1.out HB.out)); (case side4 => exact HC0_1.out); rintro e w20 ⟨rfl, hb⟩; refine ⟨_, rfl, ?_⟩; replace BK441 := za_ BK441 hb; replace BK442 := za_ BK442 hb; replace HB := Aside0.mk (below_step (zw2_ HB GE441 GE442) hb); (try clear hb); have hcz21_0 := zx_ (v := .slice A1_0 l1_0.length c1_0) BK442 0; have hcz21_1 := zx_ (v := .slice A1_1 l1_1.length c1_1) BK442 1; have hfz21_0 := blk_frozen BK442.out 0; have hfz21_1 := blk_frozen BK442.out 1) | (go_at_call 12; (with_reducible refine (carousellaw8_great.calls _ _ l1_0 _ _ l1_1 120 true _ ?side1 ?side2 ?side3 ?side4 A16.out).mono ?_); (case side1 => exact zk_ (Kd.C_below HR1_0.out HB.out)); (case side2 => exact HC1_0.out); (case side3 => exact zk_ (Kd.C_below HR1_1.out HB.out)); (case side4 => exact HC1_1.out); rintro e w22 ⟨rfl, hb⟩; replace BK441 := za_ BK441 hb; replace BK442 := za_ BK442 hb; replace HB := Aside0.mk (below_step (zw2_ HB GE441 GE442) hb); (try clear hb)))
   go_meet
   case rel => exact ⟨_, (true), z1_, H', ⟨by first | omega | exact Nat.le_refl _⟩, ⟨zb_ BK441⟩, ⟨zb_ BK442⟩, ⟨zw2_ HB GE441 GE442⟩⟩
  replace c17 := Bool.eq_false_iff.mpr c17
  subst c17
  have H1 := H
  rw [if_neg (show ¬ (false = true) by decide)] at H1
  clear H
  have H := H1
  clear H1
  have H' := Aside0.mk H
  clear H
  have hnb23 := NB441_442.out
  have hnc23 := NB442_441.out
  have hcz24_0 := zx_ (v := .slice A0_0 l0_0.length c0_0) BK441 0
  have hcz24_1 := zx_ (v := .slice A0_1 l0_1.length c0_1) BK441 1
  have hfz24_0 := blk_frozen BK441.out 0
  have hfz24_1 := blk_frozen BK441.out 1
  go_wp2_with (first | ((with_reducible refine gate_callee (f := 12) rfl ?_); refine zg_ (some 20) Try.func12 #[.agg #[.slice A0_0 l0_0.length c0_0, .slice A0_1 l0_1.length c0_1], .int .i64 120] (h := ?_); (with_reducible refine (carousellaw8_great.calls _ _ l0_0 _ _ l0_1 120 false _ ?side1 ?side2 ?side3 ?side4 A11.out).mono ?_); (case side1 => exact zk_ (Kd.C_below HR0_0.out HB.out)); (case side2 => exact HC0_0.out); (case side3 => exact zk_ (Kd.C_below HR0_1.out HB.out)); (case side4 => exact HC0_1.out); rintro e w25 ⟨rfl, hb⟩; refine ⟨_, rfl, ?_⟩; replace BK441 := za_ BK441 hb; replace BK442 := za_ BK442 hb; replace HB := Aside0.mk (below_step (zw2_ HB GE441 GE442) hb); (try clear hb); have hcz26_0 := zx_ (v := .slice A1_0 l1_0.length c1_0) BK442 0; have hcz26_1 := zx_ (v := .slice A1_1 l1_1.length c1_1) BK442 1; have hfz26_0 := blk_frozen BK442.out 0; have hfz26_1 := blk_frozen BK442.out 1) | (go_at_call 12; (with_reducible refine (carousellaw8_great.calls _ _ l1_0 _ _ l1_1 120 false _ ?side1 ?side2 ?side3 ?side4 A16.out).mono ?_); (case side1 => exact zk_ (Kd.C_below HR1_0.out HB.out)); (case side2 => exact HC1_0.out); (case side3 => exact zk_ (Kd.C_below HR1_1.out HB.out)); (case side4 => exact HC1_1.out); rintro e w27 ⟨rfl, hb⟩; replace BK441 := za_ BK441 hb; replace BK442 := za_ BK442 hb; replace HB := Aside0.mk (below_step (zw2_ HB GE441 GE442) hb); (try clear hb)))
  go_meet
  case rel => exact ⟨_, (decide (a3 > 300)), z1_, H', ⟨by first | omega | exact Nat.le_refl _⟩, ⟨zb_ BK441⟩, ⟨zb_ BK442⟩, ⟨zw2_ HB GE441 GE442⟩⟩
 case rest =>
  clear HC7
  try clear c1
  try clear c2
  try clear p2
  try clear c6
  try clear c9
  try clear c11
  try clear c12
  try clear c13
  try clear c17
  try clear c18
  try clear c23
  try clear hcz14_0
  try clear hcz14_1
  try clear hcz19_0
  try clear hcz19_1
  try clear hcz21_0
  try clear hcz21_1
  try clear hcz24_0
  try clear hcz24_1
  try clear hcz26_0
  try clear hcz26_1
  try clear hfz14_0
  try clear hfz14_1
  try clear hfz19_0
  try clear hfz19_1
  try clear hfz21_0
  try clear hfz21_1
  try clear hfz24_0
  try clear hfz24_1
  try clear hfz26_0
  try clear hfz26_1
  obtain ⟨kq, x28_6, rfl, HA, HJ6, BK441, BK442, HB⟩ := hcut
  cases kq with
  | zero => exact absurd HA.out (by simp [carousellaw8_ConvBacks.j0])
  | succ kj6 =>
   have H := HA.out
   clear HA
   simp only [carousellaw8_ConvBacks.j0] at H
   by_cases c28 : x28_6 = true
   ·subst c28
    have H1 : (some true) = some r := by rw [if_pos rfl] at H; exact H
    clear H
    have H := H1
    clear H1
    obtain rfl := Option.some.inj H
    go_wp2
    go_ret
    exact ⟨z0_, zw2_ HB GE441 GE442⟩
   replace c28 := Bool.eq_false_iff.mpr c28
   subst c28
   have H1 := H
   rw [if_neg (show ¬ (false = true) by decide)] at H1
   clear H
   have H := H1
   clear H1
   replace H := Option.bind_eq_some_iff.mp H
   obtain ⟨⟨t446, t449, t452⟩, A290, H⟩ := H
   (try dsimp only at H)
   have A29 := Aside0.mk A290
   clear A290
   replace H := Option.bind_eq_some_iff.mp H
   obtain ⟨⟨t454, t457, t460⟩, A300, H⟩ := H
   (try dsimp only at H)
   have A30 := Aside0.mk A300
   clear A300
   replace H := Option.bind_eq_some_iff.mp H
   obtain ⟨⟨t462, t465, t468⟩, A310, H⟩ := H
   (try dsimp only at H)
   have A31 := Aside0.mk A310
   clear A310
   replace H := Option.bind_eq_some_iff.mp H
   obtain ⟨⟨t470, t473, t476⟩, A320, H⟩ := H
   (try dsimp only at H)
   have A32 := Aside0.mk A320
   clear A320
   by_cases c33 : t452 = t460
   rotate_left
   ·rw [if_neg c33] at H
    exact absurd H (by simp)
   rw [if_pos c33] at H
   have c33b0 : (t452 == t460) = true := beq_iff_eq.mpr c33
   have c33b1 : (t452 != t460) = false := bne_eq_false_iff_eq.mpr c33
   clear c33
   replace H := Option.bind_eq_some_iff.mp H
   obtain ⟨t478, A340, H⟩ := H
   (try dsimp only at H)
   have A34 := Aside0.mk A340
   clear A340
   by_cases c35 : t478 = true
   rotate_left
   ·replace c35 := Bool.eq_false_iff.mpr c35
    subst c35
    have H1 : (none) = some r := by rw [if_neg (show ¬ (false = true) by decide)] at H; exact H
    clear H
    have H := H1
    clear H1
    exact absurd H (by simp)
   subst c35
   have H1 := H
   rw [if_pos rfl] at H1
   clear H
   have H := H1
   clear H1
   by_cases c36 : t468 = t476
   rotate_left
   ·rw [if_neg c36] at H
    exact absurd H (by simp)
   rw [if_pos c36] at H
   have c36b0 : (t468 == t476) = true := beq_iff_eq.mpr c36
   have c36b1 : (t468 != t476) = false := bne_eq_false_iff_eq.mpr c36
   clear c36
   replace H := Option.bind_eq_some_iff.mp H
   obtain ⟨t479, A370, H⟩ := H
   replace H : (some t479) = some r := H
   have A37 := Aside0.mk A370
   clear A370
   obtain rfl := Option.some.inj H
   have hnb38 := NB441_442.out
   have hnc38 := NB442_441.out
   have hcz39_0 := zx_ (v := .slice A0_0 l0_0.length c0_0) BK441 0
   have hcz39_1 := zx_ (v := .slice A0_1 l0_1.length c0_1) BK441 1
   have hfz39_0 := blk_frozen BK441.out 0
   have hfz39_1 := blk_frozen BK441.out 1
   have hcz40_0 := zx_ (v := .slice A1_0 l1_0.length c1_0) BK442 0
   have hcz40_1 := zx_ (v := .slice A1_1 l1_1.length c1_1) BK442 1
   have hfz40_0 := blk_frozen BK442.out 0
   have hfz40_1 := blk_frozen BK442.out 1
   go_wp2_with (first | ((with_reducible refine gate_callee (f := 22) rfl ?_); refine zg_ (some 34) Try.func22 #[.agg #[.slice A0_0 l0_0.length c0_0, .slice A0_1 l0_1.length c0_1], .agg #[.slice A1_0 l1_0.length c1_0, .slice A1_1 l1_1.length c1_1], .int .i64 a2, .int .i64 a3] (h := ?_); (with_reducible refine (conv_BackIn.calls kj6 _ _ l0_0 _ _ l0_1 _ _ l1_0 _ _ l1_1 a2 a3 t446 t449 t452 _ ?side1 ?side2 ?side3 ?side4 ?side5 ?side6 ?side7 ?side8 A29.out).mono ?_); (case side1 => exact zk_ (Kd.C_below HR0_0.out HB.out)); (case side2 => exact HC0_0.out); (case side3 => exact zk_ (Kd.C_below HR0_1.out HB.out)); (case side4 => exact HC0_1.out); (case side5 => exact zk_ (Kd.C_below HR1_0.out HB.out)); (case side6 => exact HC1_0.out); (case side7 => exact zk_ (Kd.C_below HR1_1.out HB.out)); (case side8 => exact HC1_1.out); rintro e w41 ⟨v447, v450, rfl, ho0, ho1, hb⟩; refine ⟨_, rfl, ?_⟩; have HO448 := Aside0.mk (Kd.R_lower ho0 (below_size (zw2_ HB GE441 GE442))); have HO451 := Aside0.mk (Kd.R_lower ho1 (below_size (zw2_ HB GE441 GE442))); replace BK441 := za_ BK441 hb; replace BK442 := za_ BK442 hb; replace HB := Aside0.mk (below_step (zw2_ HB GE441 GE442) hb); (try clear hb); (try clear ho0); (try clear ho1)) | ((with_reducible refine gate_dst (N := 9) rfl ?_); refine box_event ?hg (N := 9) ?hd (cs := #[.slice none 0 0, .slice none 0 0]) (t := 25) ?hr ?_; (case hd => rfl); (case hg => rfl); (case hr => first | (go_simp; done) | (go_simp; rfl)); intro gb453 hg w42 hbox hb; replace HO448 := zy_ HO448 hb; replace HO451 := zy_ HO451 hb; have BK453 := Aside0.mk (hbox); have GW453 := Aside0.mk (zs_ hg (zw2_ HB GE441 GE442)); have GE453 := Aside0.mk (zs_ hg (zw2_ HB GE441 GE442)); replace HB := Aside0.mk (below_step (zw2_ HB GE441 GE442) hb); have NB441_453 := Aside0.mk (zn_ hg BK441); have NB453_441 := Aside0.mk (zm_ hg BK441); replace BK441 := za_ BK441 hb; have NB442_453 := Aside0.mk (zn_ hg BK442); have NB453_442 := Aside0.mk (zm_ hg BK442); replace BK442 := za_ BK442 hb; clear hb hbox hg; obtain ⟨Ao43, co43, eo43⟩ := Kd.R_slice HO448.out; subst eo43; have hnb44 := NB453_441.out; have hnc44 := NB441_453.out; have hnb45 := NB453_442.out; have hnc45 := NB442_453.out; have hcz46_0 := zx_ (v := .slice none 0 0) BK453 0; have hcz46_1 := zx_ (v := .slice none 0 0) BK453 1; have hfz46_0 := blk_frozen BK453.out 0; have hfz46_1 := blk_frozen BK453.out 1; obtain ⟨Ao47, co47, eo47⟩ := Kd.R_slice HO451.out; subst eo47; have hcz48_0 := zx_ (v := .slice A0_0 l0_0.length c0_0) BK441 0; have hcz48_1 := zx_ (v := .slice A0_1 l0_1.length c0_1) BK441 1; have hfz48_0 := blk_frozen BK441.out 0; have hfz48_1 := blk_frozen BK441.out 1; have hcz49_0 := zx_ (v := .slice A1_0 l1_0.length c1_0) BK442 0; have hcz49_1 := zx_ (v := .slice A1_1 l1_1.length c1_1) BK442 1; have hfz49_0 := blk_frozen BK442.out 0; have hfz49_1 := blk_frozen BK442.out 1) | ((with_reducible refine gate_callee (f := 23) rfl ?_); refine zg_ (some 42) Try.func23 #[.agg #[.slice A0_0 l0_0.length c0_0, .slice A0_1 l0_1.length c0_1], .agg #[.slice A1_0 l1_0.length c1_0, .slice A1_1 l1_1.length c1_1], .int .i64 a2, .int .i64 a3] (h := ?_); (with_reducible refine (carouselref5_BackIn.calls kj6 _ _ l0_0 _ _ l0_1 _ _ l1_0 _ _ l1_1 a2 a3 t454 t457 t460 _ ?side1 ?side2 ?side3 ?side4 ?side5 ?side6 ?side7 ?side8 A30.out).mono ?_); (case side1 => exact Kd.C_below HR0_0.out (zw3_ HB GE441 GE442 GE453)); (case side2 => exact HC0_0.out); (case side3 => exact Kd.C_below HR0_1.out (zw3_ HB GE441 GE442 GE453)); (case side4 => exact HC0_1.out); (case side5 => exact Kd.C_below HR1_0.out (zw3_ HB GE441 GE442 GE453)); (case side6 => exact HC1_0.out); (case side7 => exact Kd.C_below HR1_1.out (zw3_ HB GE441 GE442 GE453)); (case side8 => exact HC1_1.out); rintro e w50 ⟨v455, v458, rfl, ho0, ho1, hb⟩; refine ⟨_, rfl, ?_⟩; have HO456 := Aside0.mk (Kd.R_lower (Kd.R_new' ho0 (Kd.R_lt (zr_ ((zf_ HO448 BK453 (.slice Ao43 t446.length co43) (.slice Ao47 t449.length co47)))))) (below_size (zw3_ HB GE441 GE442 GE453))); replace HO448 := Aside0.mk (Kd.R_elder' (zr_ ((zf_ HO448 BK453 (.slice Ao43 t446.length co43) (.slice Ao47 t449.length co47)))) (Kd.R_base ho0) hb); have HO459 := Aside0.mk (Kd.R_lower (Kd.R_new' ho1 (Kd.R_lt (zr_ ((zf_ HO451 BK453 (.slice Ao43 t446.length co43) (.slice Ao47 t449.length co47)))))) (below_size (zw3_ HB GE441 GE442 GE453))); replace HO451 := Aside0.mk (Kd.R_elder' (zr_ ((zf_ HO451 BK453 (.slice Ao43 t446.length co43) (.slice Ao47 t449.length co47)))) (Kd.R_base ho1) hb); replace BK441 := Aside0.mk (blk_below (g := gb441) (o := .cells #[.slice A0_0 l0_0.length c0_0, .slice A0_1 l0_1.length c0_1] 25 (0, 0)) (zv1_ BK441 NB441_453) hb); replace BK442 := Aside0.mk (blk_below (g := gb442) (o := .cells #[.slice A1_0 l1_0.length c1_0, .slice A1_1 l1_1.length c1_1] 25 (0, 0)) (zv1_ BK442 NB442_453) hb); replace BK453 := Aside0.mk (blk_below (g := gb453) (o := .cells #[.slice Ao43 t446.length co43, .slice Ao47 t449.length co47] 25 (0, 0)) (zo2_ BK453) hb); replace HB := Aside0.mk (below_step (zw3_ HB GE441 GE442 GE453) hb); (try clear hb); (try clear hk); (try clear ho0); (try clear ho1)) | ((with_reducible refine gate_dst (N := 11) rfl ?_); refine box_event ?hg (N := 11) ?hd (cs := #[.slice none 0 0, .slice none 0 0]) (t := 25) ?hr ?_; (case hd => rfl); (case hg => rfl); (case hr => first | (go_simp; done) | (go_simp; rfl)); intro gb461 hg w51 hbox hb; replace HO448 := zy_ HO448 hb; replace HO451 := zy_ HO451 hb; replace HO456 := zy_ HO456 hb; replace HO459 := zy_ HO459 hb; have BK461 := Aside0.mk (hbox); have GW461 := Aside0.mk (zs_ hg (zw3_ HB GE441 GE442 GE453)); have GE461 := Aside0.mk (zs_ hg (zw3_ HB GE441 GE442 GE453)); replace HB := Aside0.mk (below_step (zw3_ HB GE441 GE442 GE453) hb); have NB441_461 := Aside0.mk (zn_ hg BK441); have NB461_441 := Aside0.mk (zm_ hg BK441); replace BK441 := za_ BK441 hb; have NB442_461 := Aside0.mk (zn_ hg BK442); have NB461_442 := Aside0.mk (zm_ hg BK442); replace BK442 := za_ BK442 hb; have NB453_461 := Aside0.mk (zn_ hg BK453); have NB461_453 := Aside0.mk (zm_ hg BK453); replace BK453 := za_ BK453 hb; clear hb hbox hg; obtain ⟨Ao52, co52, eo52⟩ := Kd.R_slice HO456.out; subst eo52; have hnb53 := NB461_441.out; have hnc53 := NB441_461.out; have hnb54 := NB461_442.out; have hnc54 := NB442_461.out; have hnb55 := NB461_453.out; have hnc55 := NB453_461.out; have hcz56_0 := zx_ (v := .slice none 0 0) BK461 0; have hcz56_1 := zx_ (v := .slice none 0 0) BK461 1; have hfz56_0 := blk_frozen BK461.out 0; have hfz56_1 := blk_frozen BK461.out 1; obtain ⟨Ao57, co57, eo57⟩ := Kd.R_slice HO459.out; subst eo57; have hcz58_0 := zx_ (v := .slice A0_0 l0_0.length c0_0) BK441 0; have hcz58_1 := zx_ (v := .slice A0_1 l0_1.length c0_1) BK441 1; have hfz58_0 := blk_frozen BK441.out 0; have hfz58_1 := blk_frozen BK441.out 1; have hcz59_0 := zx_ (v := .slice A1_0 l1_0.length c1_0) BK442 0; have hcz59_1 := zx_ (v := .slice A1_1 l1_1.length c1_1) BK442 1; have hfz59_0 := blk_frozen BK442.out 0; have hfz59_1 := blk_frozen BK442.out 1) | ((with_reducible refine gate_callee (f := 24) rfl ?_); refine zg_ (some 50) Try.func24 #[.agg #[.slice A0_0 l0_0.length c0_0, .slice A0_1 l0_1.length c0_1], .agg #[.slice A1_0 l1_0.length c1_0, .slice A1_1 l1_1.length c1_1], .int .i64 a2, .int .i64 a3] (h := ?_); (with_reducible refine (conv_BackKernel.calls kj6 _ _ l0_0 _ _ l0_1 _ _ l1_0 _ _ l1_1 a2 a3 t462 t465 t468 _ ?side1 ?side2 ?side3 ?side4 ?side5 ?side6 ?side7 ?side8 A31.out).mono ?_); (case side1 => exact Kd.C_below HR0_0.out (zw4_ HB GE441 GE442 GE453 GE461)); (case side2 => exact HC0_0.out); (case side3 => exact Kd.C_below HR0_1.out (zw4_ HB GE441 GE442 GE453 GE461)); (case side4 => exact HC0_1.out); (case side5 => exact Kd.C_below HR1_0.out (zw4_ HB GE441 GE442 GE453 GE461)); (case side6 => exact HC1_0.out); (case side7 => exact Kd.C_below HR1_1.out (zw4_ HB GE441 GE442 GE453 GE461)); (case side8 => exact HC1_1.out); rintro e w60 ⟨v463, v466, rfl, ho0, ho1, hb⟩; refine ⟨_, rfl, ?_⟩; have HO464 := Aside0.mk (Kd.R_lower (Kd.R_new' (Kd.R_new' ho0 (Kd.R_lt (zr_ ((zf_ HO448 BK461 (.slice Ao52 t454.length co52) (.slice Ao57 t457.length co57)))))) (Kd.R_lt (zr_ ((zf_ HO456 BK461 (.slice Ao52 t454.length co52) (.slice Ao57 t457.length co57)))))) (below_size (zw4_ HB GE441 GE442 GE453 GE461))); replace HO448 := Aside0.mk (Kd.R_elder' (zr_ ((zf_ HO448 BK461 (.slice Ao52 t454.length co52) (.slice Ao57 t457.length co57)))) (Kd.R_base ho0) hb); replace HO456 := Aside0.mk (Kd.R_elder' (zr_ ((zf_ HO456 BK461 (.slice Ao52 t454.length co52) (.slice Ao57 t457.length co57)))) (Kd.R_base ho0) hb); have HO467 := Aside0.mk (Kd.R_lower (Kd.R_new' (Kd.R_new' ho1 (Kd.R_lt (zr_ ((zf_ HO451 BK461 (.slice Ao52 t454.length co52) (.slice Ao57 t457.length co57)))))) (Kd.R_lt (zr_ ((zf_ HO459 BK461 (.slice Ao52 t454.length co52) (.slice Ao57 t457.length co57)))))) (below_size (zw4_ HB GE441 GE442 GE453 GE461))); replace HO451 := Aside0.mk (Kd.R_elder' (zr_ ((zf_ HO451 BK461 (.slice Ao52 t454.length co52) (.slice Ao57 t457.length co57)))) (Kd.R_base ho1) hb); replace HO459 := Aside0.mk (Kd.R_elder' (zr_ ((zf_ HO459 BK461 (.slice Ao52 t454.length co52) (.slice Ao57 t457.length co57)))) (Kd.R_base ho1) hb); replace BK441 := Aside0.mk (blk_below (g := gb441) (o := .cells #[.slice A0_0 l0_0.length c0_0, .slice A0_1 l0_1.length c0_1] 25 (0, 0)) (zv1_ BK441 NB441_461) hb); replace BK442 := Aside0.mk (blk_below (g := gb442) (o := .cells #[.slice A1_0 l1_0.length c1_0, .slice A1_1 l1_1.length c1_1] 25 (0, 0)) (zv1_ BK442 NB442_461) hb); replace BK453 := Aside0.mk (blk_below (g := gb453) (o := .cells #[.slice Ao43 t446.length co43, .slice Ao47 t449.length co47] 25 (0, 0)) (zv1_ BK453 NB453_461) hb); replace BK461 := Aside0.mk (blk_below (g := gb461) (o := .cells #[.slice Ao52 t454.length co52, .slice Ao57 t457.length co57] 25 (0, 0)) (zo2_ BK461) hb); replace HB := Aside0.mk (below_step (zw4_ HB GE441 GE442 GE453 GE461) hb); (try clear hb); (try clear hk); (try clear ho0); (try clear ho1)) | ((with_reducible refine gate_dst (N := 13) rfl ?_); refine box_event ?hg (N := 13) ?hd (cs := #[.slice none 0 0, .slice none 0 0]) (t := 25) ?hr ?_; (case hd => rfl); (case hg => rfl); (case hr => first | (go_simp; done) | (go_simp; rfl)); intro gb469 hg w61 hbox hb; replace HO448 := zy_ HO448 hb; replace HO451 := zy_ HO451 hb; replace HO456 := zy_ HO456 hb; replace HO459 := zy_ HO459 hb; replace HO464 := zy_ HO464 hb; replace HO467 := zy_ HO467 hb; have BK469 := Aside0.mk (hbox); have GW469 := Aside0.mk (zs_ hg (zw4_ HB GE441 GE442 GE453 GE461)); have GE469 := Aside0.mk (zs_ hg (zw4_ HB GE441 GE442 GE453 GE461)); replace HB := Aside0.mk (below_step (zw4_ HB GE441 GE442 GE453 GE461) hb); have NB441_469 := Aside0.mk (zn_ hg BK441); have NB469_441 := Aside0.mk (zm_ hg BK441); replace BK441 := za_ BK441 hb; have NB442_469 := Aside0.mk (zn_ hg BK442); have NB469_442 := Aside0.mk (zm_ hg BK442); replace BK442 := za_ BK442 hb; have NB453_469 := Aside0.mk (zn_ hg BK453); have NB469_453 := Aside0.mk (zm_ hg BK453); replace BK453 := za_ BK453 hb; have NB461_469 := Aside0.mk (zn_ hg BK461); have NB469_461 := Aside0.mk (zm_ hg BK461); replace BK461 := za_ BK461 hb; clear hb hbox hg; obtain ⟨Ao62, co62, eo62⟩ := Kd.R_slice HO464.out; subst eo62; have hnb63 := NB469_441.out; have hnc63 := NB441_469.out; have hnb64 := NB469_442.out; have hnc64 := NB442_469.out; have hnb65 := NB469_453.out; have hnc65 := NB453_469.out; have hnb66 := NB469_461.out; have hnc66 := NB461_469.out; have hcz67_0 := zx_ (v := .slice none 0 0) BK469 0; have hcz67_1 := zx_ (v := .slice none 0 0) BK469 1; have hfz67_0 := blk_frozen BK469.out 0; have hfz67_1 := blk_frozen BK469.out 1; obtain ⟨Ao68, co68, eo68⟩ := Kd.R_slice HO467.out; subst eo68; have hcz69_0 := zx_ (v := .slice A0_0 l0_0.length c0_0) BK441 0; have hcz69_1 := zx_ (v := .slice A0_1 l0_1.length c0_1) BK441 1; have hfz69_0 := blk_frozen BK441.out 0; have hfz69_1 := blk_frozen BK441.out 1; have hcz70_0 := zx_ (v := .slice A1_0 l1_0.length c1_0) BK442 0; have hcz70_1 := zx_ (v := .slice A1_1 l1_1.length c1_1) BK442 1; have hfz70_0 := blk_frozen BK442.out 0; have hfz70_1 := blk_frozen BK442.out 1) | ((with_reducible refine gate_callee (f := 25) rfl ?_); refine zg_ (some 58) Try.func25 #[.agg #[.slice A0_0 l0_0.length c0_0, .slice A0_1 l0_1.length c0_1], .agg #[.slice A1_0 l1_0.length c1_0, .slice A1_1 l1_1.length c1_1], .int .i64 a2, .int .i64 a3] (h := ?_); (with_reducible refine (carouselref5_BackKernel.calls kj6 _ _ l0_0 _ _ l0_1 _ _ l1_0 _ _ l1_1 a2 a3 t470 t473 t476 _ ?side1 ?side2 ?side3 ?side4 ?side5 ?side6 ?side7 ?side8 A32.out).mono ?_); (case side1 => exact Kd.C_below HR0_0.out (zw5_ HB GE441 GE442 GE453 GE461 GE469)); (case side2 => exact HC0_0.out); (case side3 => exact Kd.C_below HR0_1.out (zw5_ HB GE441 GE442 GE453 GE461 GE469)); (case side4 => exact HC0_1.out); (case side5 => exact Kd.C_below HR1_0.out (zw5_ HB GE441 GE442 GE453 GE461 GE469)); (case side6 => exact HC1_0.out); (case side7 => exact Kd.C_below HR1_1.out (zw5_ HB GE441 GE442 GE453 GE461 GE469)); (case side8 => exact HC1_1.out); rintro e w71 ⟨v471, v474, rfl, ho0, ho1, hb⟩; refine ⟨_, rfl, ?_⟩; have HO472 := Aside0.mk (Kd.R_lower (Kd.R_new' (Kd.R_new' (Kd.R_new' ho0 (Kd.R_lt (zr_ ((zf_ HO448 BK469 (.slice Ao62 t462.length co62) (.slice Ao68 t465.length co68)))))) (Kd.R_lt (zr_ ((zf_ HO456 BK469 (.slice Ao62 t462.length co62) (.slice Ao68 t465.length co68)))))) (Kd.R_lt (zr_ ((zf_ HO464 BK469 (.slice Ao62 t462.length co62) (.slice Ao68 t465.length co68)))))) (below_size (zw5_ HB GE441 GE442 GE453 GE461 GE469))); replace HO448 := Aside0.mk (Kd.R_elder' (zr_ ((zf_ HO448 BK469 (.slice Ao62 t462.length co62) (.slice Ao68 t465.length co68)))) (Kd.R_base ho0) hb); replace HO456 := Aside0.mk (Kd.R_elder' (zr_ ((zf_ HO456 BK469 (.slice Ao62 t462.length co62) (.slice Ao68 t465.length co68)))) (Kd.R_base ho0) hb); replace HO464 := Aside0.mk (Kd.R_elder' (zr_ ((zf_ HO464 BK469 (.slice Ao62 t462.length co62) (.slice Ao68 t465.length co68)))) (Kd.R_base ho0) hb); have HO475 := Aside0.mk (Kd.R_lower (Kd.R_new' (Kd.R_new' (Kd.R_new' ho1 (Kd.R_lt (zr_ ((zf_ HO451 BK469 (.slice Ao62 t462.length co62) (.slice Ao68 t465.length co68)))))) (Kd.R_lt (zr_ ((zf_ HO459 BK469 (.slice Ao62 t462.length co62) (.slice Ao68 t465.length co68)))))) (Kd.R_lt (zr_ ((zf_ HO467 BK469 (.slice Ao62 t462.length co62) (.slice Ao68 t465.length co68)))))) (below_size (zw5_ HB GE441 GE442 GE453 GE461 GE469))); replace HO451 := Aside0.mk (Kd.R_elder' (zr_ ((zf_ HO451 BK469 (.slice Ao62 t462.length co62) (.slice Ao68 t465.length co68)))) (Kd.R_base ho1) hb); replace HO459 := Aside0.mk (Kd.R_elder' (zr_ ((zf_ HO459 BK469 (.slice Ao62 t462.length co62) (.slice Ao68 t465.length co68)))) (Kd.R_base ho1) hb); replace HO467 := Aside0.mk (Kd.R_elder' (zr_ ((zf_ HO467 BK469 (.slice Ao62 t462.length co62) (.slice Ao68 t465.length co68)))) (Kd.R_base ho1) hb); replace BK441 := Aside0.mk (blk_below (g := gb441) (o := .cells #[.slice A0_0 l0_0.length c0_0, .slice A0_1 l0_1.length c0_1] 25 (0, 0)) (zv1_ BK441 NB441_469) hb); replace BK442 := Aside0.mk (blk_below (g := gb442) (o := .cells #[.slice A1_0 l1_0.length c1_0, .slice A1_1 l1_1.length c1_1] 25 (0, 0)) (zv1_ BK442 NB442_469) hb); replace BK453 := Aside0.mk (blk_below (g := gb453) (o := .cells #[.slice Ao43 t446.length co43, .slice Ao47 t449.length co47] 25 (0, 0)) (zv1_ BK453 NB453_469) hb); replace BK461 := Aside0.mk (blk_below (g := gb461) (o := .cells #[.slice Ao52 t454.length co52, .slice Ao57 t457.length co57] 25 (0, 0)) (zv1_ BK461 NB461_469) hb); replace BK469 := Aside0.mk (blk_below (g := gb469) (o := .cells #[.slice Ao62 t462.length co62, .slice Ao68 t465.length co68] 25 (0, 0)) (zo2_ BK469) hb); replace HB := Aside0.mk (below_step (zw5_ HB GE441 GE442 GE453 GE461 GE469) hb); (try clear hb); (try clear hk); (try clear ho0); (try clear ho1)) | ((with_reducible refine gate_dst (N := 15) rfl ?_); refine box_event ?hg (N := 15) ?hd (cs := #[.slice none 0 0, .slice none 0 0]) (t := 25) ?hr ?_; (case hd => rfl); (case hg => rfl); (case hr => first | (go_simp; done) | (go_simp; rfl)); intro gb477 hg w72 hbox hb; replace HO448 := zy_ HO448 hb; replace HO451 := zy_ HO451 hb; replace HO456 := zy_ HO456 hb; replace HO459 := zy_ HO459 hb; replace HO464 := zy_ HO464 hb; replace HO467 := zy_ HO467 hb; replace HO472 := zy_ HO472 hb; replace HO475 := zy_ HO475 hb; have BK477 := Aside0.mk (hbox); have GW477 := Aside0.mk (zs_ hg (zw5_ HB GE441 GE442 GE453 GE461 GE469)); have GE477 := Aside0.mk (zs_ hg (zw5_ HB GE441 GE442 GE453 GE461 GE469)); replace HB := Aside0.mk (below_step (zw5_ HB GE441 GE442 GE453 GE461 GE469) hb); have NB441_477 := Aside0.mk (zn_ hg BK441); have NB477_441 := Aside0.mk (zm_ hg BK441); replace BK441 := za_ BK441 hb; have NB442_477 := Aside0.mk (zn_ hg BK442); have NB477_442 := Aside0.mk (zm_ hg BK442); replace BK442 := za_ BK442 hb; have NB453_477 := Aside0.mk (zn_ hg BK453); have NB477_453 := Aside0.mk (zm_ hg BK453); replace BK453 := za_ BK453 hb; have NB461_477 := Aside0.mk (zn_ hg BK461); have NB477_461 := Aside0.mk (zm_ hg BK461); replace BK461 := za_ BK461 hb; have NB469_477 := Aside0.mk (zn_ hg BK469); have NB477_469 := Aside0.mk (zm_ hg BK469); replace BK469 := za_ BK469 hb; clear hb hbox hg; obtain ⟨Ao73, co73, eo73⟩ := Kd.R_slice HO472.out; subst eo73; have hnb74 := NB477_441.out; have hnc74 := NB441_477.out; have hnb75 := NB477_442.out; have hnc75 := NB442_477.out; have hnb76 := NB477_453.out; have hnc76 := NB453_477.out; have hnb77 := NB477_461.out; have hnc77 := NB461_477.out; have hnb78 := NB477_469.out; have hnc78 := NB469_477.out; have hcz79_0 := zx_ (v := .slice none 0 0) BK477 0; have hcz79_1 := zx_ (v := .slice none 0 0) BK477 1; have hfz79_0 := blk_frozen BK477.out 0; have hfz79_1 := blk_frozen BK477.out 1; obtain ⟨Ao80, co80, eo80⟩ := Kd.R_slice HO475.out; subst eo80; have hcz81_0 := zx_ (v := .slice Ao43 t446.length co43) BK453 0; have hcz81_1 := zx_ (v := .slice Ao47 t449.length co47) BK453 1; have hfz81_0 := blk_frozen BK453.out 0; have hfz81_1 := blk_frozen BK453.out 1; have hcz82_0 := zx_ (v := .slice Ao52 t454.length co52) BK461 0; have hcz82_1 := zx_ (v := .slice Ao57 t457.length co57) BK461 1; have hfz82_0 := blk_frozen BK461.out 0; have hfz82_1 := blk_frozen BK461.out 1) | (go_at_call 15; (with_reducible refine (carouselref5_Alike.calls kj6 _ _ t446 _ _ t449 _ _ t454 _ _ t457 true _ ?side1 ?side2 ?side3 ?side4 ?side5 ?side6 ?side7 ?side8 A34.out).mono ?_); (case side1 => refine (Kd.R_reads' (e := 3) (base := w.heap.size) (ok := fun k_ => (((True ∧ some k_ ≠ (.slice Ao52 t454.length co52 : Value).ownBlock) ∧ some k_ ≠ (.slice Ao62 t462.length co62 : Value).ownBlock) ∧ some k_ ≠ (.slice Ao73 t470.length co73 : Value).ownBlock)) (n := t446.length) (c := co43) ?_).2.2; exact (zr_ ((zf_ HO448 BK477 (.slice Ao73 t470.length co73) (.slice Ao80 t473.length co80))))); (case side2 => exact (Kd.R_reads' HO448.out).2.1); (case side3 => refine (Kd.R_reads' (e := 33) (base := w.heap.size) (ok := fun k_ => (((True ∧ some k_ ≠ (.slice Ao57 t457.length co57 : Value).ownBlock) ∧ some k_ ≠ (.slice Ao68 t465.length co68 : Value).ownBlock) ∧ some k_ ≠ (.slice Ao80 t473.length co80 : Value).ownBlock)) (n := t449.length) (c := co47) ?_).2.2; exact (zr_ ((zf_ HO451 BK477 (.slice Ao73 t470.length co73) (.slice Ao80 t473.length co80))))); (case side4 => exact (Kd.R_reads' HO451.out).2.1); (case side5 => refine (Kd.R_reads' (e := 3) (base := w.heap.size) (ok := fun k_ => (((True ∧ some k_ ≠ (.slice Ao43 t446.length co43 : Value).ownBlock) ∧ some k_ ≠ (.slice Ao62 t462.length co62 : Value).ownBlock) ∧ some k_ ≠ (.slice Ao73 t470.length co73 : Value).ownBlock)) (n := t454.length) (c := co52) ?_).2.2; exact (zr_ ((zf_ HO456 BK477 (.slice Ao73 t470.length co73) (.slice Ao80 t473.length co80))))); (case side6 => exact (Kd.R_reads' HO456.out).2.1); (case side7 => refine (Kd.R_reads' (e := 33) (base := w.heap.size) (ok := fun k_ => (((True ∧ some k_ ≠ (.slice Ao47 t449.length co47 : Value).ownBlock) ∧ some k_ ≠ (.slice Ao68 t465.length co68 : Value).ownBlock) ∧ some k_ ≠ (.slice Ao80 t473.length co80 : Value).ownBlock)) (n := t457.length) (c := co57) ?_).2.2; exact (zr_ ((zf_ HO459 BK477 (.slice Ao73 t470.length co73) (.slice Ao80 t473.length co80))))); (case side8 => exact (Kd.R_reads' HO459.out).2.1); rintro e w83 ⟨rfl, hb⟩; replace HO448 := Aside0.mk (Kd.R_below (zr_ ((zf_ HO448 BK477 (.slice Ao73 t470.length co73) (.slice Ao80 t473.length co80)))) hb); replace HO451 := Aside0.mk (Kd.R_below (zr_ ((zf_ HO451 BK477 (.slice Ao73 t470.length co73) (.slice Ao80 t473.length co80)))) hb); replace HO456 := Aside0.mk (Kd.R_below (zr_ ((zf_ HO456 BK477 (.slice Ao73 t470.length co73) (.slice Ao80 t473.length co80)))) hb); replace HO459 := Aside0.mk (Kd.R_below (zr_ ((zf_ HO459 BK477 (.slice Ao73 t470.length co73) (.slice Ao80 t473.length co80)))) hb); replace HO464 := Aside0.mk (Kd.R_below (zr_ ((zf_ HO464 BK477 (.slice Ao73 t470.length co73) (.slice Ao80 t473.length co80)))) hb); replace HO467 := Aside0.mk (Kd.R_below (zr_ ((zf_ HO467 BK477 (.slice Ao73 t470.length co73) (.slice Ao80 t473.length co80)))) hb); replace HO472 := Aside0.mk (Kd.R_below (zr_ ((zf_ HO472 BK477 (.slice Ao73 t470.length co73) (.slice Ao80 t473.length co80)))) hb); replace HO475 := Aside0.mk (Kd.R_below (zr_ ((zf_ HO475 BK477 (.slice Ao73 t470.length co73) (.slice Ao80 t473.length co80)))) hb); replace BK441 := Aside0.mk (blk_below (g := gb441) (o := .cells #[.slice A0_0 l0_0.length c0_0, .slice A0_1 l0_1.length c0_1] 25 (0, 0)) (zv1_ BK441 NB441_477) hb); replace BK442 := Aside0.mk (blk_below (g := gb442) (o := .cells #[.slice A1_0 l1_0.length c1_0, .slice A1_1 l1_1.length c1_1] 25 (0, 0)) (zv1_ BK442 NB442_477) hb); replace BK453 := Aside0.mk (blk_below (g := gb453) (o := .cells #[.slice Ao43 t446.length co43, .slice Ao47 t449.length co47] 25 (0, 0)) (zv1_ BK453 NB453_477) hb); replace BK461 := Aside0.mk (blk_below (g := gb461) (o := .cells #[.slice Ao52 t454.length co52, .slice Ao57 t457.length co57] 25 (0, 0)) (zv1_ BK461 NB461_477) hb); replace BK469 := Aside0.mk (blk_below (g := gb469) (o := .cells #[.slice Ao62 t462.length co62, .slice Ao68 t465.length co68] 25 (0, 0)) (zv1_ BK469 NB469_477) hb); replace BK477 := Aside0.mk (blk_below (g := gb477) (o := .cells #[.slice Ao73 t470.length co73, .slice Ao80 t473.length co80] 25 (0, 0)) (zo2_ BK477) hb); replace HB := Aside0.mk (below_step (zw6_ HB GE441 GE442 GE453 GE461 GE469 GE477) hb); (try clear hb); (try clear hk); have hcz84_0 := zx_ (v := .slice Ao62 t462.length co62) BK469 0; have hcz84_1 := zx_ (v := .slice Ao68 t465.length co68) BK469 1; have hfz84_0 := blk_frozen BK469.out 0; have hfz84_1 := blk_frozen BK469.out 1; have hcz85_0 := zx_ (v := .slice Ao73 t470.length co73) BK477 0; have hcz85_1 := zx_ (v := .slice Ao80 t473.length co80) BK477 1; have hfz85_0 := blk_frozen BK477.out 0; have hfz85_1 := blk_frozen BK477.out 1) | (go_at_call 15; (with_reducible refine (carouselref5_Alike.calls kj6 _ _ t462 _ _ t465 _ _ t470 _ _ t473 t479 _ ?side1 ?side2 ?side3 ?side4 ?side5 ?side6 ?side7 ?side8 A37.out).mono ?_); (case side1 => exact zk_ ((Kd.R_reads' HO464.out).2.2)); (case side2 => exact (Kd.R_reads' HO464.out).2.1); (case side3 => exact zk_ ((Kd.R_reads' HO467.out).2.2)); (case side4 => exact (Kd.R_reads' HO467.out).2.1); (case side5 => exact zk_ ((Kd.R_reads' HO472.out).2.2)); (case side6 => exact (Kd.R_reads' HO472.out).2.1); (case side7 => exact zk_ ((Kd.R_reads' HO475.out).2.2)); (case side8 => exact (Kd.R_reads' HO475.out).2.1); rintro e w86 ⟨rfl, hb⟩; replace HO448 := zy_ HO448 hb; replace HO451 := zy_ HO451 hb; replace HO456 := zy_ HO456 hb; replace HO459 := zy_ HO459 hb; replace HO464 := zy_ HO464 hb; replace HO467 := zy_ HO467 hb; replace HO472 := zy_ HO472 hb; replace HO475 := zy_ HO475 hb; replace BK441 := za_ BK441 hb; replace BK442 := za_ BK442 hb; replace BK453 := za_ BK453 hb; replace BK461 := za_ BK461 hb; replace BK469 := za_ BK469 hb; replace BK477 := za_ BK477 hb; replace HB := Aside0.mk (below_step (zw6_ HB GE441 GE442 GE453 GE461 GE469 GE477) hb); (try clear hb)))
   go_ret
   exact ⟨z0_, zw6_ HB GE441 GE442 GE453 GE461 GE469 GE477⟩

/-- THE ONE PURE STATEMENT of carousellaw8_ConvBacks. -/
def carousellaw8_ConvBacks.Pure : Prop := ∀ (l0_0 : List Int) (l0_1 : List Int) (l1_0 : List Int) (l1_1 : List Int) (a2 : Int) (a3 : Int), l0_0.length ≤ maxLen → (∀ x ∈ l0_0, (Lit.int .i64 x).wf = true) → l0_1.length ≤ maxLen → (∀ x ∈ l0_1, (Lit.int .i64 x).wf = true) → l1_0.length ≤ maxLen → (∀ x ∈ l1_0, (Lit.int .i64 x).wf = true) → l1_1.length ≤ maxLen → (∀ x ∈ l1_1, (Lit.int .i64 x).wf = true) → (Lit.int .i64 a2).wf = true → (Lit.int .i64 a3).wf = true → ∃ k, carousellaw8_ConvBacks.f k l0_0 l0_1 l1_0 l1_1 a2 a3 = some true

end Go.Proofs.Ytcipfhlcgnomaaa.PConvBacks
