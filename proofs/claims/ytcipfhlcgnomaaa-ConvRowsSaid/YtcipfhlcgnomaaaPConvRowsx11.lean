/- The functions that the law ConvRows reaches, as Lean functions, and that each call of the Go function does what its Lean function says, wherever that one answers. Written by a program of mine over the print of the kit; Lean checks it. -/
import Derived.Test.YtcipfhlcgnomaaaPConvRowsx0
import Derived.Test.YtcipfhlcgnomaaaPConvRowsx5
import Derived.Test.YtcipfhlcgnomaaaPConvRowsx6
import Derived.Test.YtcipfhlcgnomaaaPConvRowsx7
import Derived.Test.YtcipfhlcgnomaaaPConvRowsx10
namespace Go.Proofs.Ytcipfhlcgnomaaa.PConvRows
open Go.RowKit Go.Proofs.YtcipfhlcgnomaaaW.PrintWords Go.Proofs.YtcipfhlcgnomaaaW.PrintLast Go.Proofs.YtcipfhlcgnomaaaW.PrintMore
attribute [local go_sem] max2_int min2_int max_two min_two max_three min_three max_four min_four   -- for this text's walks alone
set_option linter.unusedVariables false
set_option linter.unusedSimpArgs false

/-! ### carousellaw8_ConvRows: function 3 -/
def carousellaw8_ConvRows.j0 : Nat → Int → Bool → List Int → List Int → List Int → List Int → Option (Bool)
 | 0, _, _, _, _, _, _ => none
 | k + 1, x2, x18, x344000, x344001, x345000, x345001 => if x18 = true then (some true) else ((conv_Row.f k x344000 x344001 x345000 x345001 x2).bind fun bt348 => ((carouselref5_Row.f k x344000 x344001 x345000 x345001 x2).bind fun bt356 => (if bt348.2.2 = bt356.2.2 then ((carouselref5_Alike.f k bt348.1 bt348.2.1 bt356.1 bt356.2.1).bind fun t364 => (some t364)) else (none))))
def carousellaw8_ConvRows.f (k : Nat) (l0_0 : List Int) (l0_1 : List Int) (l1_0 : List Int) (l1_1 : List Int) (a2 : Int) : Option (Bool) := (carousellaw8_awake.f k).bind fun t345 => (if t345 = true then ((carousellaw8_great.f l0_0 l0_1 150).bind fun t346 => (if t346 = true then (carousellaw8_ConvRows.j0 k a2 true l0_0 l0_1 l1_0 l1_1) else ((carousellaw8_great.f l1_0 l1_1 150).bind fun t347 => (carousellaw8_ConvRows.j0 k a2 t347 l0_0 l0_1 l1_0 l1_1)))) else (none))
theorem carousellaw8_ConvRows.mono_l : ∀ k, (∀ y0 y1 y2 y3 y4 y5, LeO (carousellaw8_ConvRows.j0 k y0 y1 y2 y3 y4 y5) (carousellaw8_ConvRows.j0 (k + 1) y0 y1 y2 y3 y4 y5))
 | 0 => fun _ _ _ _ _ _ r h => by simp [carousellaw8_ConvRows.j0] at h
 | k + 1 => by
  have ih0 := carousellaw8_ConvRows.mono_l k
  ·intro y0 y1 y2 y3 y4 y5
   unfold carousellaw8_ConvRows.j0
   repeat' first
   | (with_reducible exact ih0 _ _ _ _ _ _)
   | (with_reducible exact carouselref5_Alike.mono _ _ _ _ _)
   | (with_reducible exact carouselref5_Row.mono _ _ _ _ _ _)
   | (with_reducible exact conv_Row.mono _ _ _ _ _ _)
   | (with_reducible exact LeO.refl _)
   | (with_reducible exact LeO.none _)
   | (with_reducible refine LeO.ite ?_ ?_)
   | (with_reducible refine LeO.bind ?_ (fun _ => ?_))
   | exact ih0 _ _ _ _ _ _
   | exact carouselref5_Alike.mono _ _ _ _ _
   | exact carouselref5_Row.mono _ _ _ _ _ _
   | exact conv_Row.mono _ _ _ _ _ _
   | exact LeO.none _
   | refine LeO.ite ?_ ?_
   | refine LeO.bind ?_ (fun _ => ?_)
theorem carousellaw8_ConvRows.mono : ∀ a0 a1 a2 a3 a4 k, LeO (carousellaw8_ConvRows.f k a0 a1 a2 a3 a4) (carousellaw8_ConvRows.f (k + 1) a0 a1 a2 a3 a4) := by
 intro a0 a1 a2 a3 a4 k
 have ih0 := carousellaw8_ConvRows.mono_l k
 unfold carousellaw8_ConvRows.f
 repeat' first
   | (with_reducible exact ih0 _ _ _ _ _ _)
   | (with_reducible exact carousellaw8_awake.mono _)
   | (with_reducible exact LeO.refl _)
   | (with_reducible exact LeO.none _)
   | (with_reducible refine LeO.ite ?_ ?_)
   | (with_reducible refine LeO.bind ?_ (fun _ => ?_))
   | exact ih0 _ _ _ _ _ _
   | exact carousellaw8_awake.mono _
   | exact LeO.none _
   | refine LeO.ite ?_ ?_
   | refine LeO.bind ?_ (fun _ => ?_)
set_option maxHeartbeats 8000000 in
set_option maxRecDepth 100000 in
theorem carousellaw8_ConvRows.calls (k : Nat) (A0_0 : Option Addr) (c0_0 : Nat) (l0_0 : List Int) (A0_1 : Option Addr) (c0_1 : Nat) (l0_1 : List Int) (A1_0 : Option Addr) (c1_0 : Nat) (l1_0 : List Int) (A1_1 : Option Addr) (c1_1 : Nat) (l1_1 : List Int) (a2 : Int) (r : Bool) (w : World) (hr0_0 : Kd.C (Kd.int .i64) w A0_0 l0_0.length l0_0) (hc0_0 : l0_0.length ≤ c0_0) (hr0_1 : Kd.C (Kd.int .i64) w A0_1 l0_1.length l0_1) (hc0_1 : l0_1.length ≤ c0_1) (hr1_0 : Kd.C (Kd.int .i64) w A1_0 l1_0.length l1_0) (hc1_0 : l1_0.length ≤ c1_0) (hr1_1 : Kd.C (Kd.int .i64) w A1_1 l1_1.length l1_1) (hc1_1 : l1_1.length ≤ c1_1) (h : carousellaw8_ConvRows.f k l0_0 l0_1 l1_0 l1_1 a2 = some r) :
  Calls Try.prog 3 #[.agg #[.slice A0_0 l0_0.length c0_0, .slice A0_1 l0_1.length c0_1], .agg #[.slice A1_0 l1_0.length c1_0, .slice A1_1 l1_1.length c1_1], .int .i64 a2] w fun e w' => e = .returned (.bool r) ∧ Below w.heap.size w w' := by
 have hu25 := Try.underlying25
 have HR0_0 := Aside0.mk hr0_0
 have HC0_0 := Aside0.mk hc0_0
 clear hr0_0 hc0_0
 have HR0_1 := Aside0.mk hr0_1
 have HC0_1 := Aside0.mk hc0_1
 clear hr0_1 hc0_1
 have HR1_0 := Aside0.mk hr1_0
 have HC1_0 := Aside0.mk hc1_0
 clear hr1_0 hc1_0
 have HR1_1 := Aside0.mk hr1_1
 have HC1_1 := Aside0.mk hc1_1
 clear hr1_1 hc1_1
 have HB := Aside0.mk (Below.refl w.heap.size w)
 have H : ((carousellaw8_awake.f k).bind fun t345 => (if t345 = true then ((carousellaw8_great.f l0_0 l0_1 150).bind fun t346 => (if t346 = true then (carousellaw8_ConvRows.j0 k a2 true l0_0 l0_1 l1_0 l1_1) else ((carousellaw8_great.f l1_0 l1_1 150).bind fun t347 => (carousellaw8_ConvRows.j0 k a2 t347 l0_0 l0_1 l1_0 l1_1)))) else (none))) = some r := h
 clear h
 replace H := Option.bind_eq_some_iff.mp H
 obtain ⟨t345, A40, H⟩ := H
 (try dsimp only at H)
 have A4 := Aside0.mk A40
 clear A40
 by_cases c5 : t345 = true
 ·subst c5
  have H1 := H
  rw [if_pos rfl] at H1
  clear H
  have H := H1
  clear H1
  have HC6 := Aside0.mk H
  clear H
  go_enter Try.func3, Try.ntmps3
  go_upto_region 3 with (first | ((with_reducible refine gate_dst (N := 3) rfl ?_); refine box_event ?hg (N := 3) ?hd (cs := #[.slice A0_0 l0_0.length c0_0, .slice A0_1 l0_1.length c0_1]) (t := 25) ?hr ?_; (case hd => rfl); (case hg => rfl); (case hr => first | (go_simp; done) | (go_simp; rfl)); intro gb343 hg w7 hbox hb; have BK343 := Aside0.mk (hbox); have GW343 := Aside0.mk (zs_ hg (zw0_ HB)); have GE343 := Aside0.mk (zs_ hg (zw0_ HB)); replace HB := Aside0.mk (below_step (zw0_ HB) hb); clear hb hbox hg) | ((with_reducible refine gate_dst (N := 4) rfl ?_); refine box_event ?hg (N := 4) ?hd (cs := #[.slice A1_0 l1_0.length c1_0, .slice A1_1 l1_1.length c1_1]) (t := 25) ?hr ?_; (case hd => rfl); (case hg => rfl); (case hr => first | (go_simp; done) | (go_simp; rfl)); intro gb344 hg w8 hbox hb; have BK344 := Aside0.mk (hbox); have GW344 := Aside0.mk (zs_ hg (zw1_ HB GE343)); have GE344 := Aside0.mk (zs_ hg (zw1_ HB GE343)); replace HB := Aside0.mk (below_step (zw1_ HB GE343) hb); have NB343_344 := Aside0.mk (zn_ hg BK343); have NB344_343 := Aside0.mk (zm_ hg BK343); replace BK343 := Aside0.mk (zl_ BK343 hb); clear hb hbox hg) | ((with_reducible refine gate_callee (f := 11) rfl ?_); refine zg_ (some 11) Try.func11 #[] (h := ?_); (with_reducible refine (carousellaw8_awake.calls k  true _ A4.out).mono ?_); rintro e w9 ⟨rfl, hb⟩; refine ⟨_, rfl, ?_⟩; replace BK343 := Aside0.mk (zl_ BK343 hb); replace BK344 := Aside0.mk (zl_ BK344 hb); replace HB := Aside0.mk (below_step (zw2_ HB GE343 GE344) hb); (try clear hb)))
  (try simp only [Act.put, List.setIfInBounds_toArray, List.set_cons_zero, List.set_cons_succ])
  go_cut [18] (fun v18 wc => ∃ (kq : Nat) (x18_5 : Bool), v18 = .bool x18_5 ∧ Aside0 (carousellaw8_ConvRows.j0 kq a2 x18_5 l0_0 l0_1 l1_0 l1_1 = some r) ∧ Aside0 (kq ≤ k) ∧ Aside0 (wc.heap[gb343]? = some (.cells #[(.slice A0_0 l0_0.length c0_0), (.slice A0_1 l0_1.length c0_1)] 25 (0, 0))) ∧ Aside0 (wc.heap[gb344]? = some (.cells #[(.slice A1_0 l1_0.length c1_0), (.slice A1_1 l1_1.length c1_1)] 25 (0, 0))) ∧ Aside0 (Below w.heap.size w wc))
  case first =>
   have H := HC6.out
   clear HC6
   replace H := Option.bind_eq_some_iff.mp H
   obtain ⟨t346, A100, H⟩ := H
   (try dsimp only at H)
   have A10 := Aside0.mk A100
   clear A100
   by_cases c11 : t346 = true
   ·subst c11
    have H1 : (carousellaw8_ConvRows.j0 k a2 true l0_0 l0_1 l1_0 l1_1) = some r := by rw [if_pos rfl] at H; exact H
    clear H
    have H := H1
    clear H1
    have H' := Aside0.mk H
    clear H
    have hnb12 := NB343_344.out
    have hnc12 := NB344_343.out
    have hcz13_0 := zx_ (v := .slice A0_0 l0_0.length c0_0) BK343 0
    have hcz13_1 := zx_ (v := .slice A0_1 l0_1.length c0_1) BK343 1
    have hfz13_0 := blk_frozen BK343.out 0
    have hfz13_1 := blk_frozen BK343.out 1
    go_wp2_with (first | ((with_reducible refine gate_callee (f := 12) rfl ?_); refine zg_ (some 14) Try.func12 #[.agg #[.slice A0_0 l0_0.length c0_0, .slice A0_1 l0_1.length c0_1], .int .i64 150] (h := ?_); (with_reducible refine (carousellaw8_great.calls _ _ l0_0 _ _ l0_1 150 true _ ?side1 ?side2 ?side3 ?side4 A10.out).mono ?_); (case side1 => exact zk_ (Kd.C_below HR0_0.out HB.out)); (case side2 => exact HC0_0.out); (case side3 => exact zk_ (Kd.C_below HR0_1.out HB.out)); (case side4 => exact HC0_1.out); rintro e w14 ⟨rfl, hb⟩; refine ⟨_, rfl, ?_⟩; replace BK343 := Aside0.mk (zl_ BK343 hb); replace BK344 := Aside0.mk (zl_ BK344 hb); replace HB := Aside0.mk (below_step (zw2_ HB GE343 GE344) hb); (try clear hb)))
    go_meet
    case rel => exact ⟨_, (true), (by first | rfl | (simp; done) | (simp [*]; done)), H', ⟨by first | omega | exact Nat.le_refl _⟩, ⟨zb_ BK343⟩, ⟨zb_ BK344⟩, ⟨zw2_ HB GE343 GE344⟩⟩
   ·replace c11 := Bool.eq_false_iff.mpr c11
    subst c11
    have H1 := H
    rw [if_neg (show ¬ (false = true) by decide)] at H1
    clear H
    have H := H1
    clear H1
    replace H := Option.bind_eq_some_iff.mp H
    obtain ⟨t347, A150, H⟩ := H
    replace H : (carousellaw8_ConvRows.j0 k a2 t347 l0_0 l0_1 l1_0 l1_1) = some r := H
    have A15 := Aside0.mk A150
    clear A150
    have H' := Aside0.mk H
    clear H
    have hnb16 := NB343_344.out
    have hnc16 := NB344_343.out
    have hcz17_0 := zx_ (v := .slice A0_0 l0_0.length c0_0) BK343 0
    have hcz17_1 := zx_ (v := .slice A0_1 l0_1.length c0_1) BK343 1
    have hfz17_0 := blk_frozen BK343.out 0
    have hfz17_1 := blk_frozen BK343.out 1
    go_wp2_with (first | ((with_reducible refine gate_callee (f := 12) rfl ?_); refine zg_ (some 14) Try.func12 #[.agg #[.slice A0_0 l0_0.length c0_0, .slice A0_1 l0_1.length c0_1], .int .i64 150] (h := ?_); (with_reducible refine (carousellaw8_great.calls _ _ l0_0 _ _ l0_1 150 false _ ?side1 ?side2 ?side3 ?side4 A10.out).mono ?_); (case side1 => exact zk_ (Kd.C_below HR0_0.out HB.out)); (case side2 => exact HC0_0.out); (case side3 => exact zk_ (Kd.C_below HR0_1.out HB.out)); (case side4 => exact HC0_1.out); rintro e w18 ⟨rfl, hb⟩; refine ⟨_, rfl, ?_⟩; replace BK343 := Aside0.mk (zl_ BK343 hb); replace BK344 := Aside0.mk (zl_ BK344 hb); replace HB := Aside0.mk (below_step (zw2_ HB GE343 GE344) hb); (try clear hb); have hcz19_0 := zx_ (v := .slice A1_0 l1_0.length c1_0) BK344 0; have hcz19_1 := zx_ (v := .slice A1_1 l1_1.length c1_1) BK344 1; have hfz19_0 := blk_frozen BK344.out 0; have hfz19_1 := blk_frozen BK344.out 1) | (go_at_call 12; (with_reducible refine (carousellaw8_great.calls _ _ l1_0 _ _ l1_1 150 t347 _ ?side1 ?side2 ?side3 ?side4 A15.out).mono ?_); (case side1 => exact zk_ (Kd.C_below HR1_0.out HB.out)); (case side2 => exact HC1_0.out); (case side3 => exact zk_ (Kd.C_below HR1_1.out HB.out)); (case side4 => exact HC1_1.out); rintro e w20 ⟨rfl, hb⟩; replace BK343 := Aside0.mk (zl_ BK343 hb); replace BK344 := Aside0.mk (zl_ BK344 hb); replace HB := Aside0.mk (below_step (zw2_ HB GE343 GE344) hb); (try clear hb)))
    go_meet
    case rel => exact ⟨_, (t347), (by first | rfl | (simp; done) | (simp [*]; done)), H', ⟨by first | omega | exact Nat.le_refl _⟩, ⟨zb_ BK343⟩, ⟨zb_ BK344⟩, ⟨zw2_ HB GE343 GE344⟩⟩
  case rest =>
   clear HC6
   try clear c1
   try clear p2
   try clear c3
   try clear c5
   try clear c11
   try clear c12
   try clear c16
   try clear hcz13_0
   try clear hcz13_1
   try clear hcz17_0
   try clear hcz17_1
   try clear hcz19_0
   try clear hcz19_1
   try clear hfz13_0
   try clear hfz13_1
   try clear hfz17_0
   try clear hfz17_1
   try clear hfz19_0
   try clear hfz19_1
   obtain ⟨kq, x18_5, rfl, HA, HJ5, BK343, BK344, HB⟩ := hcut
   cases kq with
   | zero => exact absurd HA.out (by simp [carousellaw8_ConvRows.j0])
   | succ kj5 =>
    have H := HA.out
    clear HA
    simp only [carousellaw8_ConvRows.j0] at H
    by_cases c21 : x18_5 = true
    ·subst c21
     have H1 : (some true) = some r := by rw [if_pos rfl] at H; exact H
     clear H
     have H := H1
     clear H1
     obtain rfl := Option.some.inj H
     go_wp2
     go_ret
     exact ⟨by first | rfl | (simp [errW_none, errW_some] <;> rfl) | (simp [*, errW_none, errW_some] <;> rfl), zw2_ HB GE343 GE344⟩
    ·replace c21 := Bool.eq_false_iff.mpr c21
     subst c21
     have H1 := H
     rw [if_neg (show ¬ (false = true) by decide)] at H1
     clear H
     have H := H1
     clear H1
     replace H := Option.bind_eq_some_iff.mp H
     obtain ⟨⟨t348, t351, t354⟩, A220, H⟩ := H
     (try dsimp only at H)
     have A22 := Aside0.mk A220
     clear A220
     replace H := Option.bind_eq_some_iff.mp H
     obtain ⟨⟨t356, t359, t362⟩, A230, H⟩ := H
     replace H : (if t354 = t362 then ((carouselref5_Alike.f kj5 t348 t351 t356 t359).bind fun t364 => (some t364)) else (none)) = some r := H
     have A23 := Aside0.mk A230
     clear A230
     by_cases c24 : t354 = t362
     ·rw [if_pos c24] at H
      have c24b0 : (t354 == t362) = true := beq_iff_eq.mpr c24
      have c24b1 : (t354 != t362) = false := bne_eq_false_iff_eq.mpr c24
      clear c24
      replace H := Option.bind_eq_some_iff.mp H
      obtain ⟨t364, A250, H⟩ := H
      replace H : (some t364) = some r := H
      have A25 := Aside0.mk A250
      clear A250
      obtain rfl := Option.some.inj H
      have hnb26 := NB343_344.out
      have hnc26 := NB344_343.out
      have hcz27_0 := zx_ (v := .slice A0_0 l0_0.length c0_0) BK343 0
      have hcz27_1 := zx_ (v := .slice A0_1 l0_1.length c0_1) BK343 1
      have hfz27_0 := blk_frozen BK343.out 0
      have hfz27_1 := blk_frozen BK343.out 1
      have hcz28_0 := zx_ (v := .slice A1_0 l1_0.length c1_0) BK344 0
      have hcz28_1 := zx_ (v := .slice A1_1 l1_1.length c1_1) BK344 1
      have hfz28_0 := blk_frozen BK344.out 0
      have hfz28_1 := blk_frozen BK344.out 1
      go_wp2_with (first | ((with_reducible refine gate_callee (f := 13) rfl ?_); refine zg_ (some 23) Try.func13 #[.agg #[.slice A0_0 l0_0.length c0_0, .slice A0_1 l0_1.length c0_1], .agg #[.slice A1_0 l1_0.length c1_0, .slice A1_1 l1_1.length c1_1], .int .i64 a2] (h := ?_); (with_reducible refine (conv_Row.calls kj5 _ _ l0_0 _ _ l0_1 _ _ l1_0 _ _ l1_1 a2 t348 t351 t354 _ ?side1 ?side2 ?side3 ?side4 ?side5 ?side6 ?side7 ?side8 A22.out).mono ?_); (case side1 => exact zk_ (Kd.C_below HR0_0.out HB.out)); (case side2 => exact HC0_0.out); (case side3 => exact zk_ (Kd.C_below HR0_1.out HB.out)); (case side4 => exact HC0_1.out); (case side5 => exact zk_ (Kd.C_below HR1_0.out HB.out)); (case side6 => exact HC1_0.out); (case side7 => exact zk_ (Kd.C_below HR1_1.out HB.out)); (case side8 => exact HC1_1.out); rintro e w29 ⟨v349, v352, rfl, ho0, ho1, hb⟩; refine ⟨_, rfl, ?_⟩; have HO350 := Aside0.mk (Kd.R_lower ho0 (below_size (zw2_ HB GE343 GE344))); have HO353 := Aside0.mk (Kd.R_lower ho1 (below_size (zw2_ HB GE343 GE344))); replace BK343 := Aside0.mk (zl_ BK343 hb); replace BK344 := Aside0.mk (zl_ BK344 hb); replace HB := Aside0.mk (below_step (zw2_ HB GE343 GE344) hb); (try clear hb); (try clear ho0); (try clear ho1)) | ((with_reducible refine gate_dst (N := 7) rfl ?_); refine box_event ?hg (N := 7) ?hd (cs := #[.slice none 0 0, .slice none 0 0]) (t := 25) ?hr ?_; (case hd => rfl); (case hg => rfl); (case hr => first | (go_simp; done) | (go_simp; rfl)); intro gb355 hg w30 hbox hb; replace HO350 := Aside0.mk (Kd.R_below (zr_ HO350.out) hb); replace HO353 := Aside0.mk (Kd.R_below (zr_ HO353.out) hb); have BK355 := Aside0.mk (hbox); have GW355 := Aside0.mk (zs_ hg (zw2_ HB GE343 GE344)); have GE355 := Aside0.mk (zs_ hg (zw2_ HB GE343 GE344)); replace HB := Aside0.mk (below_step (zw2_ HB GE343 GE344) hb); have NB343_355 := Aside0.mk (zn_ hg BK343); have NB355_343 := Aside0.mk (zm_ hg BK343); replace BK343 := Aside0.mk (zl_ BK343 hb); have NB344_355 := Aside0.mk (zn_ hg BK344); have NB355_344 := Aside0.mk (zm_ hg BK344); replace BK344 := Aside0.mk (zl_ BK344 hb); clear hb hbox hg; obtain ⟨Ao31, co31, eo31⟩ := Kd.R_slice HO350.out; subst eo31; have hnb32 := NB355_343.out; have hnc32 := NB343_355.out; have hnb33 := NB355_344.out; have hnc33 := NB344_355.out; have hcz34_0 := zx_ (v := .slice none 0 0) BK355 0; have hcz34_1 := zx_ (v := .slice none 0 0) BK355 1; have hfz34_0 := blk_frozen BK355.out 0; have hfz34_1 := blk_frozen BK355.out 1; obtain ⟨Ao35, co35, eo35⟩ := Kd.R_slice HO353.out; subst eo35; have hcz36_0 := zx_ (v := .slice A0_0 l0_0.length c0_0) BK343 0; have hcz36_1 := zx_ (v := .slice A0_1 l0_1.length c0_1) BK343 1; have hfz36_0 := blk_frozen BK343.out 0; have hfz36_1 := blk_frozen BK343.out 1; have hcz37_0 := zx_ (v := .slice A1_0 l1_0.length c1_0) BK344 0; have hcz37_1 := zx_ (v := .slice A1_1 l1_1.length c1_1) BK344 1; have hfz37_0 := blk_frozen BK344.out 0; have hfz37_1 := blk_frozen BK344.out 1) | ((with_reducible refine gate_callee (f := 14) rfl ?_); refine zg_ (some 30) Try.func14 #[.agg #[.slice A0_0 l0_0.length c0_0, .slice A0_1 l0_1.length c0_1], .agg #[.slice A1_0 l1_0.length c1_0, .slice A1_1 l1_1.length c1_1], .int .i64 a2] (h := ?_); (with_reducible refine (carouselref5_Row.calls kj5 _ _ l0_0 _ _ l0_1 _ _ l1_0 _ _ l1_1 a2 t356 t359 t362 _ ?side1 ?side2 ?side3 ?side4 ?side5 ?side6 ?side7 ?side8 A23.out).mono ?_); (case side1 => exact Kd.C_below HR0_0.out (zw3_ HB GE343 GE344 GE355)); (case side2 => exact HC0_0.out); (case side3 => exact Kd.C_below HR0_1.out (zw3_ HB GE343 GE344 GE355)); (case side4 => exact HC0_1.out); (case side5 => exact Kd.C_below HR1_0.out (zw3_ HB GE343 GE344 GE355)); (case side6 => exact HC1_0.out); (case side7 => exact Kd.C_below HR1_1.out (zw3_ HB GE343 GE344 GE355)); (case side8 => exact HC1_1.out); rintro e w38 ⟨v357, v360, rfl, ho0, ho1, hb⟩; refine ⟨_, rfl, ?_⟩; have HO358 := Aside0.mk (Kd.R_lower (Kd.R_new' ho0 (Kd.R_lt (zr_ ((Kd.R_mono (Kd.R_far (p := ⟨gb355, 1, none⟩) (Kd.R_far (p := ⟨gb355, 0, none⟩) (Kd.R_types HO350.out BK355.out (by decide)) (fun _ hk => hk.2) (.slice Ao31 t348.length co31)) (fun _ hk => hk.2) (.slice Ao35 t351.length co35)) (fun _ h_ => h_.1)))))) (below_size (zw3_ HB GE343 GE344 GE355))); replace HO350 := Aside0.mk (Kd.R_elder' (zr_ ((Kd.R_mono (Kd.R_far (p := ⟨gb355, 1, none⟩) (Kd.R_far (p := ⟨gb355, 0, none⟩) (Kd.R_types HO350.out BK355.out (by decide)) (fun _ hk => hk.2) (.slice Ao31 t348.length co31)) (fun _ hk => hk.2) (.slice Ao35 t351.length co35)) (fun _ h_ => h_.1)))) (Kd.R_base ho0) hb); have HO361 := Aside0.mk (Kd.R_lower (Kd.R_new' ho1 (Kd.R_lt (zr_ ((Kd.R_mono (Kd.R_far (p := ⟨gb355, 1, none⟩) (Kd.R_far (p := ⟨gb355, 0, none⟩) (Kd.R_types HO353.out BK355.out (by decide)) (fun _ hk => hk.2) (.slice Ao31 t348.length co31)) (fun _ hk => hk.2) (.slice Ao35 t351.length co35)) (fun _ h_ => h_.1)))))) (below_size (zw3_ HB GE343 GE344 GE355))); replace HO353 := Aside0.mk (Kd.R_elder' (zr_ ((Kd.R_mono (Kd.R_far (p := ⟨gb355, 1, none⟩) (Kd.R_far (p := ⟨gb355, 0, none⟩) (Kd.R_types HO353.out BK355.out (by decide)) (fun _ hk => hk.2) (.slice Ao31 t348.length co31)) (fun _ hk => hk.2) (.slice Ao35 t351.length co35)) (fun _ h_ => h_.1)))) (Kd.R_base ho1) hb); replace BK343 := Aside0.mk (blk_below (g := gb343) (o := .cells #[.slice A0_0 l0_0.length c0_0, .slice A0_1 l0_1.length c0_1] 25 (0, 0)) (by (with_reducible repeat (first | refine blk_drewN ?_ _ | refine blk_drew ?_ | refine blk_alloc ?_ _)); refine blk_far ?_ NB343_355.out _; (with_reducible repeat (first | refine blk_drewN ?_ _ | refine blk_drew ?_ | refine blk_alloc ?_ _)); refine blk_far ?_ NB343_355.out _; (with_reducible repeat (first | refine blk_drewN ?_ _ | refine blk_drew ?_ | refine blk_alloc ?_ _)); exact BK343.out) hb); replace BK344 := Aside0.mk (blk_below (g := gb344) (o := .cells #[.slice A1_0 l1_0.length c1_0, .slice A1_1 l1_1.length c1_1] 25 (0, 0)) (by (with_reducible repeat (first | refine blk_drewN ?_ _ | refine blk_drew ?_ | refine blk_alloc ?_ _)); refine blk_far ?_ NB344_355.out _; (with_reducible repeat (first | refine blk_drewN ?_ _ | refine blk_drew ?_ | refine blk_alloc ?_ _)); refine blk_far ?_ NB344_355.out _; (with_reducible repeat (first | refine blk_drewN ?_ _ | refine blk_drew ?_ | refine blk_alloc ?_ _)); exact BK344.out) hb); replace BK355 := Aside0.mk (blk_below (g := gb355) (o := .cells #[.slice Ao31 t348.length co31, .slice Ao35 t351.length co35] 25 (0, 0)) (by (with_reducible repeat (first | refine blk_drewN ?_ _ | refine blk_drew ?_ | refine blk_alloc ?_ _)); refine blk_put (cs := #[.slice Ao31 t348.length co31, .slice none 0 0]) ?_ 1 _ rfl; (with_reducible repeat (first | refine blk_drewN ?_ _ | refine blk_drew ?_ | refine blk_alloc ?_ _)); refine blk_put (cs := #[.slice none 0 0, .slice none 0 0]) ?_ 0 _ rfl; (with_reducible repeat (first | refine blk_drewN ?_ _ | refine blk_drew ?_ | refine blk_alloc ?_ _)); exact BK355.out) hb); replace HB := Aside0.mk (below_step (zw3_ HB GE343 GE344 GE355) hb); (try clear hb); (try clear hk); (try clear ho0); (try clear ho1)) | ((with_reducible refine gate_dst (N := 9) rfl ?_); refine box_event ?hg (N := 9) ?hd (cs := #[.slice none 0 0, .slice none 0 0]) (t := 25) ?hr ?_; (case hd => rfl); (case hg => rfl); (case hr => first | (go_simp; done) | (go_simp; rfl)); intro gb363 hg w39 hbox hb; replace HO350 := Aside0.mk (Kd.R_below (zr_ HO350.out) hb); replace HO353 := Aside0.mk (Kd.R_below (zr_ HO353.out) hb); replace HO358 := Aside0.mk (Kd.R_below (zr_ HO358.out) hb); replace HO361 := Aside0.mk (Kd.R_below (zr_ HO361.out) hb); have BK363 := Aside0.mk (hbox); have GW363 := Aside0.mk (zs_ hg (zw3_ HB GE343 GE344 GE355)); have GE363 := Aside0.mk (zs_ hg (zw3_ HB GE343 GE344 GE355)); replace HB := Aside0.mk (below_step (zw3_ HB GE343 GE344 GE355) hb); have NB343_363 := Aside0.mk (zn_ hg BK343); have NB363_343 := Aside0.mk (zm_ hg BK343); replace BK343 := Aside0.mk (zl_ BK343 hb); have NB344_363 := Aside0.mk (zn_ hg BK344); have NB363_344 := Aside0.mk (zm_ hg BK344); replace BK344 := Aside0.mk (zl_ BK344 hb); have NB355_363 := Aside0.mk (zn_ hg BK355); have NB363_355 := Aside0.mk (zm_ hg BK355); replace BK355 := Aside0.mk (zl_ BK355 hb); clear hb hbox hg; obtain ⟨Ao40, co40, eo40⟩ := Kd.R_slice HO358.out; subst eo40; have hnb41 := NB363_343.out; have hnc41 := NB343_363.out; have hnb42 := NB363_344.out; have hnc42 := NB344_363.out; have hnb43 := NB363_355.out; have hnc43 := NB355_363.out; have hcz44_0 := zx_ (v := .slice none 0 0) BK363 0; have hcz44_1 := zx_ (v := .slice none 0 0) BK363 1; have hfz44_0 := blk_frozen BK363.out 0; have hfz44_1 := blk_frozen BK363.out 1; obtain ⟨Ao45, co45, eo45⟩ := Kd.R_slice HO361.out; subst eo45; have hcz46_0 := zx_ (v := .slice Ao31 t348.length co31) BK355 0; have hcz46_1 := zx_ (v := .slice Ao35 t351.length co35) BK355 1; have hfz46_0 := blk_frozen BK355.out 0; have hfz46_1 := blk_frozen BK355.out 1) | (go_at_call 15; (with_reducible refine (carouselref5_Alike.calls kj5 _ _ t348 _ _ t351 _ _ t356 _ _ t359 t364 _ ?side1 ?side2 ?side3 ?side4 ?side5 ?side6 ?side7 ?side8 A25.out).mono ?_); (case side1 => refine (Kd.R_reads' (e := 3) (base := w.heap.size) (ok := fun k_ => (True ∧ some k_ ≠ (.slice Ao40 t356.length co40 : Value).ownBlock)) (n := t348.length) (c := co31) ?_).2.2; exact (zr_ ((Kd.R_mono (Kd.R_far (p := ⟨gb363, 1, none⟩) (Kd.R_far (p := ⟨gb363, 0, none⟩) (Kd.R_types HO350.out BK363.out (by decide)) (fun _ hk => hk.2) (.slice Ao40 t356.length co40)) (fun _ hk => hk.2) (.slice Ao45 t359.length co45)) (fun _ h_ => h_.1))))); (case side2 => exact (Kd.R_reads' HO350.out).2.1); (case side3 => refine (Kd.R_reads' (e := 33) (base := w.heap.size) (ok := fun k_ => (True ∧ some k_ ≠ (.slice Ao45 t359.length co45 : Value).ownBlock)) (n := t351.length) (c := co35) ?_).2.2; exact (zr_ ((Kd.R_mono (Kd.R_far (p := ⟨gb363, 1, none⟩) (Kd.R_far (p := ⟨gb363, 0, none⟩) (Kd.R_types HO353.out BK363.out (by decide)) (fun _ hk => hk.2) (.slice Ao40 t356.length co40)) (fun _ hk => hk.2) (.slice Ao45 t359.length co45)) (fun _ h_ => h_.1))))); (case side4 => exact (Kd.R_reads' HO353.out).2.1); (case side5 => refine (Kd.R_reads' (e := 3) (base := w.heap.size) (ok := fun k_ => (True ∧ some k_ ≠ (.slice Ao31 t348.length co31 : Value).ownBlock)) (n := t356.length) (c := co40) ?_).2.2; exact (zr_ ((Kd.R_mono (Kd.R_far (p := ⟨gb363, 1, none⟩) (Kd.R_far (p := ⟨gb363, 0, none⟩) (Kd.R_types HO358.out BK363.out (by decide)) (fun _ hk => hk.2) (.slice Ao40 t356.length co40)) (fun _ hk => hk.2) (.slice Ao45 t359.length co45)) (fun _ h_ => h_.1))))); (case side6 => exact (Kd.R_reads' HO358.out).2.1); (case side7 => refine (Kd.R_reads' (e := 33) (base := w.heap.size) (ok := fun k_ => (True ∧ some k_ ≠ (.slice Ao35 t351.length co35 : Value).ownBlock)) (n := t359.length) (c := co45) ?_).2.2; exact (zr_ ((Kd.R_mono (Kd.R_far (p := ⟨gb363, 1, none⟩) (Kd.R_far (p := ⟨gb363, 0, none⟩) (Kd.R_types HO361.out BK363.out (by decide)) (fun _ hk => hk.2) (.slice Ao40 t356.length co40)) (fun _ hk => hk.2) (.slice Ao45 t359.length co45)) (fun _ h_ => h_.1))))); (case side8 => exact (Kd.R_reads' HO361.out).2.1); rintro e w47 ⟨rfl, hb⟩; replace HO350 := Aside0.mk (Kd.R_below (zr_ ((Kd.R_mono (Kd.R_far (p := ⟨gb363, 1, none⟩) (Kd.R_far (p := ⟨gb363, 0, none⟩) (Kd.R_types HO350.out BK363.out (by decide)) (fun _ hk => hk.2) (.slice Ao40 t356.length co40)) (fun _ hk => hk.2) (.slice Ao45 t359.length co45)) (fun _ h_ => h_.1)))) hb); replace HO353 := Aside0.mk (Kd.R_below (zr_ ((Kd.R_mono (Kd.R_far (p := ⟨gb363, 1, none⟩) (Kd.R_far (p := ⟨gb363, 0, none⟩) (Kd.R_types HO353.out BK363.out (by decide)) (fun _ hk => hk.2) (.slice Ao40 t356.length co40)) (fun _ hk => hk.2) (.slice Ao45 t359.length co45)) (fun _ h_ => h_.1)))) hb); replace HO358 := Aside0.mk (Kd.R_below (zr_ ((Kd.R_mono (Kd.R_far (p := ⟨gb363, 1, none⟩) (Kd.R_far (p := ⟨gb363, 0, none⟩) (Kd.R_types HO358.out BK363.out (by decide)) (fun _ hk => hk.2) (.slice Ao40 t356.length co40)) (fun _ hk => hk.2) (.slice Ao45 t359.length co45)) (fun _ h_ => h_.1)))) hb); replace HO361 := Aside0.mk (Kd.R_below (zr_ ((Kd.R_mono (Kd.R_far (p := ⟨gb363, 1, none⟩) (Kd.R_far (p := ⟨gb363, 0, none⟩) (Kd.R_types HO361.out BK363.out (by decide)) (fun _ hk => hk.2) (.slice Ao40 t356.length co40)) (fun _ hk => hk.2) (.slice Ao45 t359.length co45)) (fun _ h_ => h_.1)))) hb); replace BK343 := Aside0.mk (blk_below (g := gb343) (o := .cells #[.slice A0_0 l0_0.length c0_0, .slice A0_1 l0_1.length c0_1] 25 (0, 0)) (by (with_reducible repeat (first | refine blk_drewN ?_ _ | refine blk_drew ?_ | refine blk_alloc ?_ _)); refine blk_far ?_ NB343_363.out _; (with_reducible repeat (first | refine blk_drewN ?_ _ | refine blk_drew ?_ | refine blk_alloc ?_ _)); refine blk_far ?_ NB343_363.out _; (with_reducible repeat (first | refine blk_drewN ?_ _ | refine blk_drew ?_ | refine blk_alloc ?_ _)); exact BK343.out) hb); replace BK344 := Aside0.mk (blk_below (g := gb344) (o := .cells #[.slice A1_0 l1_0.length c1_0, .slice A1_1 l1_1.length c1_1] 25 (0, 0)) (by (with_reducible repeat (first | refine blk_drewN ?_ _ | refine blk_drew ?_ | refine blk_alloc ?_ _)); refine blk_far ?_ NB344_363.out _; (with_reducible repeat (first | refine blk_drewN ?_ _ | refine blk_drew ?_ | refine blk_alloc ?_ _)); refine blk_far ?_ NB344_363.out _; (with_reducible repeat (first | refine blk_drewN ?_ _ | refine blk_drew ?_ | refine blk_alloc ?_ _)); exact BK344.out) hb); replace BK355 := Aside0.mk (blk_below (g := gb355) (o := .cells #[.slice Ao31 t348.length co31, .slice Ao35 t351.length co35] 25 (0, 0)) (by (with_reducible repeat (first | refine blk_drewN ?_ _ | refine blk_drew ?_ | refine blk_alloc ?_ _)); refine blk_far ?_ NB355_363.out _; (with_reducible repeat (first | refine blk_drewN ?_ _ | refine blk_drew ?_ | refine blk_alloc ?_ _)); refine blk_far ?_ NB355_363.out _; (with_reducible repeat (first | refine blk_drewN ?_ _ | refine blk_drew ?_ | refine blk_alloc ?_ _)); exact BK355.out) hb); replace BK363 := Aside0.mk (blk_below (g := gb363) (o := .cells #[.slice Ao40 t356.length co40, .slice Ao45 t359.length co45] 25 (0, 0)) (by (with_reducible repeat (first | refine blk_drewN ?_ _ | refine blk_drew ?_ | refine blk_alloc ?_ _)); refine blk_put (cs := #[.slice Ao40 t356.length co40, .slice none 0 0]) ?_ 1 _ rfl; (with_reducible repeat (first | refine blk_drewN ?_ _ | refine blk_drew ?_ | refine blk_alloc ?_ _)); refine blk_put (cs := #[.slice none 0 0, .slice none 0 0]) ?_ 0 _ rfl; (with_reducible repeat (first | refine blk_drewN ?_ _ | refine blk_drew ?_ | refine blk_alloc ?_ _)); exact BK363.out) hb); replace HB := Aside0.mk (below_step (zw4_ HB GE343 GE344 GE355 GE363) hb); (try clear hb); (try clear hk); (try clear hi)))
      go_ret
      exact ⟨by first | rfl | (simp [errW_none, errW_some] <;> rfl) | (simp [*, errW_none, errW_some] <;> rfl), zw4_ HB GE343 GE344 GE355 GE363⟩
     ·rw [if_neg c24] at H
      exact absurd H (by simp)
 ·replace c5 := Bool.eq_false_iff.mpr c5
  subst c5
  have H1 : (none) = some r := by rw [if_neg (show ¬ (false = true) by decide)] at H; exact H
  clear H
  have H := H1
  clear H1
  exact absurd H (by simp)

/-- THE ONE PURE STATEMENT of carousellaw8_ConvRows. -/
def carousellaw8_ConvRows.Pure : Prop := ∀ (l0_0 : List Int) (l0_1 : List Int) (l1_0 : List Int) (l1_1 : List Int) (a2 : Int), l0_0.length ≤ maxLen → (∀ x ∈ l0_0, (Lit.int .i64 x).wf = true) → l0_1.length ≤ maxLen → (∀ x ∈ l0_1, (Lit.int .i64 x).wf = true) → l1_0.length ≤ maxLen → (∀ x ∈ l1_0, (Lit.int .i64 x).wf = true) → l1_1.length ≤ maxLen → (∀ x ∈ l1_1, (Lit.int .i64 x).wf = true) → (Lit.int .i64 a2).wf = true → ∃ k, carousellaw8_ConvRows.f k l0_0 l0_1 l1_0 l1_1 a2 = some true

end Go.Proofs.Ytcipfhlcgnomaaa.PConvRows
