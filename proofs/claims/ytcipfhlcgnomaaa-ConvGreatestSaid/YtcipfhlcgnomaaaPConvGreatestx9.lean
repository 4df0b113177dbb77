/- The functions that the law ConvGreatest reaches, as Lean functions, and that each call of the Go function does what its Lean function says, wherever that one answers. Written by a program of mine over the print of the kit; Lean checks it. -/
import Derived.Test.YtcipfhlcgnomaaaPConvGreatestx0
import Derived.Test.YtcipfhlcgnomaaaPConvGreatestx6
import Derived.Test.YtcipfhlcgnomaaaPConvGreatestx7
import Derived.Test.YtcipfhlcgnomaaaPConvGreatestx8
namespace Go.Proofs.Ytcipfhlcgnomaaa.PConvGreatest
open Go.RowKit Go.Proofs.YtcipfhlcgnomaaaW.PrintWords Go.Proofs.YtcipfhlcgnomaaaW.PrintLast Go.Proofs.YtcipfhlcgnomaaaW.PrintMore
attribute [local go_sem] max2_int min2_int max_two min_two max_three min_three max_four min_four   -- for this text's walks alone
set_option linter.unusedVariables false
set_option linter.unusedSimpArgs false

/-! ### carousellaw8_ConvGreatest: function 7 -/
mutual
def carousellaw8_ConvGreatest.j0 : Nat → List Int → Int → Bool → Option (Bool)
 | 0, _, _, _ => none
 | k + 1, x0, x1, x29 => if x29 = true then (some true) else ((carousellaw8_rows.f 1 x0).bind fun bt283 => ((conv_Pool.f k bt283.1 bt283.2 x1).bind fun bt289 => (if bt289.2.2.2 = 0 then (if x1 = 0 then (none) else (if (bt289.2.1.length : Int) = (wrap64 ((x0.length : Int) / x1)) then (carousellaw8_ConvGreatest.j1 k x0 x1 bt289.2.2.1 ((bt289.2.2.1.length : Int) != (bt289.2.1.length : Int)) bt289.1 bt289.2.1) else (carousellaw8_ConvGreatest.j1 k x0 x1 bt289.2.2.1 true bt289.1 bt289.2.1))) else (carousellaw8_ConvGreatest.j1 k x0 x1 bt289.2.2.1 true bt289.1 bt289.2.1))))
def carousellaw8_ConvGreatest.j1 : Nat → List Int → Int → List Int → Bool → List Int → List Int → Option (Bool)
 | 0, _, _, _, _, _, _ => none
 | k + 1, x0, x1, x6, x57, x300000, x300001 => if x57 = true then (none) else (carousellaw8_ConvGreatest.l0 k x0 x1 x6 0 x300000 x300001)
def carousellaw8_ConvGreatest.l0 : Nat → List Int → Int → List Int → Int → List Int → List Int → Option (Bool)
 | 0, _, _, _, _, _, _ => none
 | k + 1, x0, x1, x6, x8, x300000, x300001 => if x8 < (x6.length : Int) then (if 0 ≤ x8 then (if (rd x6 x8) < (wrap64 (x8 * x1)) then (carousellaw8_ConvGreatest.j3 k x0 x1 x6 x8 true x300000 x300001) else (if (rd x6 x8) ≥ (wrap64 ((wrap64 (x8 * x1)) + x1)) then (carousellaw8_ConvGreatest.j3 k x0 x1 x6 x8 true x300000 x300001) else (if 0 ≤ (rd x6 x8) then (if (rd x6 x8) < (x0.length : Int) then (if x8 < (x300001.length : Int) then (carousellaw8_ConvGreatest.j3 k x0 x1 x6 x8 ((rd x0 (rd x6 x8)) != (rd x300001 x8)) x300000 x300001) else (none)) else (none)) else (none)))) else (none)) else (some true)
def carousellaw8_ConvGreatest.j3 : Nat → List Int → Int → List Int → Int → Bool → List Int → List Int → Option (Bool)
 | 0, _, _, _, _, _, _, _ => none
 | k + 1, x0, x1, x6, x8, x98, x300000, x300001 => if x98 = true then (none) else (carousellaw8_ConvGreatest.l1 k x0 x1 x6 x8 (wrap64 (x8 * x1)) x300000 x300001)
def carousellaw8_ConvGreatest.l1 : Nat → List Int → Int → List Int → Int → Int → List Int → List Int → Option (Bool)
 | 0, _, _, _, _, _, _, _ => none
 | k + 1, x0, x1, x6, x8, x9, x300000, x300001 => if x9 < (wrap64 ((wrap64 (x8 * x1)) + x1)) then (if 0 ≤ x9 then (if x9 < (x0.length : Int) then (if 0 ≤ x8 then (if x8 < (x300001.length : Int) then (if (rd x0 x9) > (rd x300001 x8) then (none) else (if (rd x0 x9) = (rd x300001 x8) then (if x8 < (x6.length : Int) then (if x9 < (rd x6 x8) then (none) else (carousellaw8_ConvGreatest.l1 k x0 x1 x6 x8 (wrap64 (x9 + 1)) x300000 x300001)) else (none)) else (carousellaw8_ConvGreatest.l1 k x0 x1 x6 x8 (wrap64 (x9 + 1)) x300000 x300001))) else (none)) else (none)) else (none)) else (none)) else (carousellaw8_ConvGreatest.l0 k x0 x1 x6 (wrap64 (x8 + 1)) x300000 x300001)
end
def carousellaw8_ConvGreatest.f (k : Nat) (l0 : List Int) (a1 : Int) : Option (Bool) := (carousellaw8_awake.f k).bind fun t282 => (if t282 = true then (if (l0.length : Int) < 1 then (carousellaw8_ConvGreatest.j0 k l0 a1 true) else (if (l0.length : Int) > 100 then (carousellaw8_ConvGreatest.j0 k l0 a1 true) else (if a1 < 1 then (carousellaw8_ConvGreatest.j0 k l0 a1 true) else (carousellaw8_ConvGreatest.j0 k l0 a1 (decide (a1 > (l0.length : Int))))))) else (none))
theorem carousellaw8_ConvGreatest.mono_l : ∀ k, (∀ y0 y1 y2, LeO (carousellaw8_ConvGreatest.j0 k y0 y1 y2) (carousellaw8_ConvGreatest.j0 (k + 1) y0 y1 y2)) ∧ (∀ y0 y1 y2 y3 y4 y5, LeO (carousellaw8_ConvGreatest.j1 k y0 y1 y2 y3 y4 y5) (carousellaw8_ConvGreatest.j1 (k + 1) y0 y1 y2 y3 y4 y5)) ∧ (∀ y0 y1 y2 y3 y4 y5, LeO (carousellaw8_ConvGreatest.l0 k y0 y1 y2 y3 y4 y5) (carousellaw8_ConvGreatest.l0 (k + 1) y0 y1 y2 y3 y4 y5)) ∧ (∀ y0 y1 y2 y3 y4 y5 y6, LeO (carousellaw8_ConvGreatest.j3 k y0 y1 y2 y3 y4 y5 y6) (carousellaw8_ConvGreatest.j3 (k + 1) y0 y1 y2 y3 y4 y5 y6)) ∧ (∀ y0 y1 y2 y3 y4 y5 y6, LeO (carousellaw8_ConvGreatest.l1 k y0 y1 y2 y3 y4 y5 y6) (carousellaw8_ConvGreatest.l1 (k + 1) y0 y1 y2 y3 y4 y5 y6))
 | 0 => ⟨fun _ _ _ r h => by simp [carousellaw8_ConvGreatest.j0] at h, fun _ _ _ _ _ _ r h => by simp [carousellaw8_ConvGreatest.j1] at h, fun _ _ _ _ _ _ r h => by simp [carousellaw8_ConvGreatest.l0] at h, fun _ _ _ _ _ _ _ r h => by simp [carousellaw8_ConvGreatest.j3] at h, fun _ _ _ _ _ _ _ r h => by simp [carousellaw8_ConvGreatest.l1] at h⟩
 | k + 1 => by
  obtain ⟨ih0, ih1, ih2, ih3, ih4⟩ := carousellaw8_ConvGreatest.mono_l k
  refine ⟨?_, ?_, ?_, ?_, ?_⟩
  ·intro y0 y1 y2
   unfold carousellaw8_ConvGreatest.j0
   repeat' first
   | (with_reducible exact ih0 _ _ _)
   | (with_reducible exact ih1 _ _ _ _ _ _)
   | (with_reducible exact ih2 _ _ _ _ _ _)
   | (with_reducible exact ih3 _ _ _ _ _ _ _)
   | (with_reducible exact ih4 _ _ _ _ _ _ _)
   | (with_reducible exact conv_Pool.mono _ _ _ _)
   | (with_reducible exact LeO.refl _)
   | (with_reducible exact LeO.none _)
   | (with_reducible refine LeO.ite ?_ ?_)
   | (with_reducible refine LeO.bind ?_ (fun _ => ?_))
   | exact ih0 _ _ _
   | exact ih1 _ _ _ _ _ _
   | exact ih2 _ _ _ _ _ _
   | exact ih3 _ _ _ _ _ _ _
   | exact ih4 _ _ _ _ _ _ _
   | exact conv_Pool.mono _ _ _ _
   | exact LeO.none _
   | refine LeO.ite ?_ ?_
   | refine LeO.bind ?_ (fun _ => ?_)
  ·intro y0 y1 y2 y3 y4 y5
   unfold carousellaw8_ConvGreatest.j1
   repeat' first
   | (with_reducible exact ih0 _ _ _)
   | (with_reducible exact ih1 _ _ _ _ _ _)
   | (with_reducible exact ih2 _ _ _ _ _ _)
   | (with_reducible exact ih3 _ _ _ _ _ _ _)
   | (with_reducible exact ih4 _ _ _ _ _ _ _)
   | (with_reducible exact LeO.refl _)
   | (with_reducible exact LeO.none _)
   | (with_reducible refine LeO.ite ?_ ?_)
   | (with_reducible refine LeO.bind ?_ (fun _ => ?_))
   | exact ih0 _ _ _
   | exact ih1 _ _ _ _ _ _
   | exact ih2 _ _ _ _ _ _
   | exact ih3 _ _ _ _ _ _ _
   | exact ih4 _ _ _ _ _ _ _
   | exact LeO.none _
   | refine LeO.ite ?_ ?_
   | refine LeO.bind ?_ (fun _ => ?_)
  ·intro y0 y1 y2 y3 y4 y5
   unfold carousellaw8_ConvGreatest.l0
   repeat' first
   | (with_reducible exact ih0 _ _ _)
   | (with_reducible exact ih1 _ _ _ _ _ _)
   | (with_reducible exact ih2 _ _ _ _ _ _)
   | (with_reducible exact ih3 _ _ _ _ _ _ _)
   | (with_reducible exact ih4 _ _ _ _ _ _ _)
   | (with_reducible exact LeO.refl _)
   | (with_reducible exact LeO.none _)
   | (with_reducible refine LeO.ite ?_ ?_)
   | (with_reducible refine LeO.bind ?_ (fun _ => ?_))
   | exact ih0 _ _ _
   | exact ih1 _ _ _ _ _ _
   | exact ih2 _ _ _ _ _ _
   | exact ih3 _ _ _ _ _ _ _
   | exact ih4 _ _ _ _ _ _ _
   | exact LeO.none _
   | refine LeO.ite ?_ ?_
   | refine LeO.bind ?_ (fun _ => ?_)
  ·intro y0 y1 y2 y3 y4 y5 y6
   unfold carousellaw8_ConvGreatest.j3
   repeat' first
   | (with_reducible exact ih0 _ _ _)
   | (with_reducible exact ih1 _ _ _ _ _ _)
   | (with_reducible exact ih2 _ _ _ _ _ _)
   | (with_reducible exact ih3 _ _ _ _ _ _ _)
   | (with_reducible exact ih4 _ _ _ _ _ _ _)
   | (with_reducible exact LeO.refl _)
   | (with_reducible exact LeO.none _)
   | (with_reducible refine LeO.ite ?_ ?_)
   | (with_reducible refine LeO.bind ?_ (fun _ => ?_))
   | exact ih0 _ _ _
   | exact ih1 _ _ _ _ _ _
   | exact ih2 _ _ _ _ _ _
   | exact ih3 _ _ _ _ _ _ _
   | exact ih4 _ _ _ _ _ _ _
   | exact LeO.none _
   | refine LeO.ite ?_ ?_
   | refine LeO.bind ?_ (fun _ => ?_)
  ·intro y0 y1 y2 y3 y4 y5 y6
   unfold carousellaw8_ConvGreatest.l1
   repeat' first
   | (with_reducible exact ih0 _ _ _)
   | (with_reducible exact ih1 _ _ _ _ _ _)
   | (with_reducible exact ih2 _ _ _ _ _ _)
   | (with_reducible exact ih3 _ _ _ _ _ _ _)
   | (with_reducible exact ih4 _ _ _ _ _ _ _)
   | (with_reducible exact LeO.refl _)
   | (with_reducible exact LeO.none _)
   | (with_reducible refine LeO.ite ?_ ?_)
   | (with_reducible refine LeO.bind ?_ (fun _ => ?_))
   | exact ih0 _ _ _
   | exact ih1 _ _ _ _ _ _
   | exact ih2 _ _ _ _ _ _
   | exact ih3 _ _ _ _ _ _ _
   | exact ih4 _ _ _ _ _ _ _
   | exact LeO.none _
   | refine LeO.ite ?_ ?_
   | refine LeO.bind ?_ (fun _ => ?_)
theorem carousellaw8_ConvGreatest.mono : ∀ a0 a1 k, LeO (carousellaw8_ConvGreatest.f k a0 a1) (carousellaw8_ConvGreatest.f (k + 1) a0 a1) := by
 intro a0 a1 k
 obtain ⟨ih0, ih1, ih2, ih3, ih4⟩ := carousellaw8_ConvGreatest.mono_l k
 unfold carousellaw8_ConvGreatest.f
 repeat' first
   | (with_reducible exact ih0 _ _ _)
   | (with_reducible exact ih1 _ _ _ _ _ _)
   | (with_reducible exact ih2 _ _ _ _ _ _)
   | (with_reducible exact ih3 _ _ _ _ _ _ _)
   | (with_reducible exact ih4 _ _ _ _ _ _ _)
   | (with_reducible exact carousellaw8_awake.mono _)
   | (with_reducible exact LeO.refl _)
   | (with_reducible exact LeO.none _)
   | (with_reducible refine LeO.ite ?_ ?_)
   | (with_reducible refine LeO.bind ?_ (fun _ => ?_))
   | exact ih0 _ _ _
   | exact ih1 _ _ _ _ _ _
   | exact ih2 _ _ _ _ _ _
   | exact ih3 _ _ _ _ _ _ _
   | exact ih4 _ _ _ _ _ _ _
   | exact carousellaw8_awake.mono _
   | exact LeO.none _
   | refine LeO.ite ?_ ?_
   | refine LeO.bind ?_ (fun _ => ?_)
set_option maxHeartbeats 8000000 in
set_option maxRecDepth 100000 in
theorem carousellaw8_ConvGreatest.calls (k : Nat) (A0 : Option Addr) (c0 : Nat) (l0 : List Int) (a1 : Int) (r : Bool) (w : World) (hr0 : Kd.C (Kd.int .i64) w A0 l0.length l0) (hc0 : l0.length ≤ c0) (h : carousellaw8_ConvGreatest.f k l0 a1 = some r) :
  Calls Try.prog 7 #[.slice A0 l0.length c0, .int .i64 a1] w fun e w' => e = .returned (.bool r) ∧ Below w.heap.size w w' := by
 have hu25 := Try.underlying25
 have HR0 := Aside0.mk hr0
 have HC0 := Aside0.mk hc0
 clear hr0 hc0
 have HB := Aside0.mk (Below.refl w.heap.size w)
 have H : ((carousellaw8_awake.f k).bind fun t282 => (if t282 = true then (if (l0.length : Int) < 1 then (carousellaw8_ConvGreatest.j0 k l0 a1 true) else (if (l0.length : Int) > 100 then (carousellaw8_ConvGreatest.j0 k l0 a1 true) else (if a1 < 1 then (carousellaw8_ConvGreatest.j0 k l0 a1 true) else (carousellaw8_ConvGreatest.j0 k l0 a1 (decide (a1 > (l0.length : Int))))))) else (none))) = some r := h
 clear h
 replace H := Option.bind_eq_some_iff.mp H
 obtain ⟨t282, A30, H⟩ := H
 (try dsimp only at H)
 have A3 := Aside0.mk A30
 clear A30
 by_cases c4 : t282 = true
 ·subst c4
  have H1 := H
  rw [if_pos rfl] at H1
  clear H
  have H := H1
  clear H1
  have HC5 := Aside0.mk H
  clear H
  go_enter Try.func7, Try.ntmps7
  go_upto_region 3 with (first | (go_at_call 11; (with_reducible refine (carousellaw8_awake.calls k  true _ A3.out).mono ?_); rintro e w6 ⟨rfl, hb⟩; replace HB := Aside0.mk (below_step (zw0_ HB) hb); (try clear hb)))
  repeat (go_quiet (first | (go_at_call 11; (with_reducible refine (carousellaw8_awake.calls k  true _ A3.out).mono ?_); rintro e w6 ⟨rfl, hb⟩; replace HB := Aside0.mk (below_step (zw0_ HB) hb); (try clear hb))); go_upto_region 3 with (first | (go_at_call 11; (with_reducible refine (carousellaw8_awake.calls k  true _ A3.out).mono ?_); rintro e w6 ⟨rfl, hb⟩; replace HB := Aside0.mk (below_step (zw0_ HB) hb); (try clear hb))))
  (try simp only [Act.put, List.setIfInBounds_toArray, List.set_cons_zero, List.set_cons_succ])
  go_cut [29] (fun v29 wc => ∃ (kq : Nat) (x29_4 : Bool), v29 = .bool x29_4 ∧ Aside0 (carousellaw8_ConvGreatest.j0 kq l0 a1 x29_4 = some r) ∧ Aside0 (kq ≤ k) ∧ Aside0 (Below w.heap.size w wc))
  case first =>
   have H := HC5.out
   clear HC5
   by_cases c7 : (l0.length : Int) < 1
   ·rw [if_pos c7] at H
    have c7b0 : decide ((l0.length : Int) < 1) = true := decide_eq_true c7
    have c7b1 : decide (l0.length < 1) = true := decide_eq_true (by omega)
    clear c7
    (first | rw [c7b0] | (simp only [i64_w, i32_w]; rw [c7b0]) | rw [c7b1] | skip)
    have H' := Aside0.mk H
    clear H
    go_wp2
    repeat (go_quiet (fail); try go_wp2)
    go_meet
    case rel => exact ⟨_, (true), (by first | rfl | (simp; done) | (simp [*]; done)), H', ⟨by first | omega | exact Nat.le_refl _⟩, ⟨zw0_ HB⟩⟩
   ·rw [if_neg c7] at H
    have c7b0 : decide ((l0.length : Int) < 1) = false := decide_eq_false c7
    have c7b1 : decide (l0.length < 1) = false := decide_eq_false (by omega)
    clear c7
    (first | rw [c7b0] | (simp only [i64_w, i32_w]; rw [c7b0]) | rw [c7b1] | skip)
    by_cases c8 : (l0.length : Int) > 100
    ·rw [if_pos c8] at H
     have c8b0 : decide (100 < (l0.length : Int)) = true := decide_eq_true c8
     have c8b1 : decide (100 < l0.length) = true := decide_eq_true (by omega)
     clear c8
     have H' := Aside0.mk H
     clear H
     go_wp2
     repeat (go_quiet (fail); try go_wp2)
     go_meet
     case rel => exact ⟨_, (true), (by first | rfl | (simp; done) | (simp [*]; done)), H', ⟨by first | omega | exact Nat.le_refl _⟩, ⟨zw0_ HB⟩⟩
    ·rw [if_neg c8] at H
     have c8b0 : decide (100 < (l0.length : Int)) = false := decide_eq_false c8
     have c8b1 : decide (100 < l0.length) = false := decide_eq_false (by omega)
     clear c8
     by_cases c9 : a1 < 1
     ·rw [if_pos c9] at H
      have c9b0 : decide (a1 < 1) = true := decide_eq_true c9
      clear c9
      have H' := Aside0.mk H
      clear H
      go_wp2
      repeat (go_quiet (fail); try go_wp2)
      go_meet
      case rel => exact ⟨_, (true), (by first | rfl | (simp; done) | (simp [*]; done)), H', ⟨by first | omega | exact Nat.le_refl _⟩, ⟨zw0_ HB⟩⟩
     ·rw [if_neg c9] at H
      have c9b0 : decide (a1 < 1) = false := decide_eq_false c9
      clear c9
      have H' := Aside0.mk H
      clear H
      go_wp2
      repeat (go_quiet (fail); try go_wp2)
      go_meet
      case rel => exact ⟨_, (decide (a1 > (l0.length : Int))), (by first | rfl | (simp; done) | (simp [*]; done)), H', ⟨by first | omega | exact Nat.le_refl _⟩, ⟨zw0_ HB⟩⟩
  case rest =>
   clear HC5
   try clear p2
   try clear c4
   try clear c7
   try clear c7b0
   try clear c7b1
   try clear c8
   try clear c8b0
   try clear c8b1
   try clear c9
   try clear c9b0
   obtain ⟨kq, x29_4, rfl, HA, HJ4, HB⟩ := hcut
   cases kq with
   | zero => exact absurd HA.out (by simp [carousellaw8_ConvGreatest.j0])
   | succ kj4 =>
    have H := HA.out
    clear HA
    simp only [carousellaw8_ConvGreatest.j0] at H
    by_cases c10 : x29_4 = true
    ·subst c10
     have H1 : (some true) = some r := by rw [if_pos rfl] at H; exact H
     clear H
     have H := H1
     clear H1
     obtain rfl := Option.some.inj H
     go_wp2
     repeat (go_quiet (fail); try go_wp2)
     go_ret
     exact ⟨by first | rfl | (simp [errW_none, errW_some] <;> rfl) | (simp [*, errW_none, errW_some] <;> rfl), zw0_ HB⟩
    ·replace c10 := Bool.eq_false_iff.mpr c10
     subst c10
     have H1 := H
     rw [if_neg (show ¬ (false = true) by decide)] at H1
     clear H
     have H := H1
     clear H1
     replace H := Option.bind_eq_some_iff.mp H
     obtain ⟨⟨t283, t286⟩, A110, H⟩ := H
     (try dsimp only at H)
     have A11 := Aside0.mk A110
     clear A110
     replace H := Option.bind_eq_some_iff.mp H
     obtain ⟨⟨t289, t292, t295, t298⟩, A120, H⟩ := H
     (try dsimp only at H)
     have A12 := Aside0.mk A120
     clear A120
     have HC13 := Aside0.mk H
     clear H
     go_upto_region 6 with (first | (go_at_call 17; (with_reducible refine (carousellaw8_rows.calls 1 (fun k_ => k_ < w.heap.size) _ _ l0 t283 t286 _ ?side1 A11.out).mono ?_); (case side1 => exact Kd.V_mk HC0.out (Kd.F_below (Kd.C_F (Kd.heap_int .i64) HR0.out) (zw0_ HB))); rintro e w14 ⟨v284, v287, rfl, ho0, ho1, hb⟩; have HO285 := Aside0.mk (Kd.R_lower (Kd.R_mono (ok' := fun k_ => True) ho0 (fun _ hk_ => trivial)) (below_size (zw0_ HB))); have HO288 := Aside0.mk (Kd.V_lower (Kd.V_mono (ok' := fun k_ => some k_ ≠ (v284 : Value).ownBlock) ho1 (fun k_ hk_ => hk_.2)) (below_size (zw0_ HB))); replace HB := Aside0.mk (below_step (zw0_ HB) hb); (try clear hb); (try clear ho0); (try clear ho1); obtain ⟨Ao15, co15, eo15⟩ := Kd.R_slice HO285.out; subst eo15; obtain ⟨Ao16, co16, eo16⟩ := Kd.V_slice HO288.out; subst eo16) | (go_at_call 19; (with_reducible refine (conv_Pool.calls kj4 _ _ t283 _ _ t286 a1 t289 t292 t295 t298 _ ?side1 ?side2 ?side3 ?side4 A12.out).mono ?_); (case side1 => exact zk_ ((Kd.R_reads' HO285.out).2.2)); (case side2 => exact (Kd.R_reads' HO285.out).2.1); (case side3 => repeat (first | exact (Kd.V_reads' HO288.out).2.2 | (with_reducible refine Kd.C_alloc ?_ _) | (with_reducible refine Kd.C_drewN ?_ _) | (with_reducible refine Kd.C_drew ?_))); (case side4 => exact (Kd.V_reads' HO288.out).2.1); rintro e w17 ⟨v290, v293, v296, rfl, ho0, ho1, ho2, hb⟩; replace HO288 := Aside0.mk (Kd.V_mono (Kd.V_told (Kd.V_told (Kd.V_told (Kd.V_old (by (with_reducible repeat (first | apply Kd.V_alloc | apply Kd.V_drewN | apply Kd.V_drew)); exact HO288.out) hb) (Kd.R_base ho0)) (Kd.R_base ho1)) (Kd.R_base ho2)) (fun _ h_ => h_.1)); have HO291 := Aside0.mk (Kd.R_lower (Kd.R_new' ho0 (Kd.R_lt (zr_ HO285.out))) (below_size (zw0_ HB))); have HO294 := Aside0.mk (Kd.R_lower ho1 (below_size (zw0_ HB))); have HO297 := Aside0.mk (Kd.R_lower (Kd.R_new' ho2 (Kd.R_lt (zr_ HO285.out))) (below_size (zw0_ HB))); replace HO285 := Aside0.mk (Kd.R_mono (Kd.R_told (Kd.R_told (Kd.R_old (zr_ HO285.out) hb) (Kd.R_base ho0)) (Kd.R_base ho2)) (fun _ h_ => h_.1)); replace HB := Aside0.mk (below_step (zw0_ HB) hb); (try clear hb); (try clear ho0); (try clear ho1); (try clear ho2)) | ((with_reducible refine gate_dst (N := 5) rfl ?_); (try (refine gate_guard (by rfl) ?_; dsimp only)); refine box_event ?hg (N := 5) ?hd (cs := #[.slice none 0 0, .slice none 0 0]) (t := 25) ?hr ?_; (case hd => rfl); (case hg => rfl); (case hr => first | (go_simp; done) | (go_simp; rfl)); intro gb299 hg w18 hbox hb; replace HO285 := Aside0.mk (Kd.R_below (zr_ HO285.out) hb); replace HO288 := Aside0.mk (Kd.V_below (Kd.V_elderB (by (with_reducible repeat (first | apply Kd.V_alloc | apply Kd.V_drewN | apply Kd.V_drew)); exact HO288.out) gb299 (Nat.le_of_eq hg.symm)) hb); replace HO291 := Aside0.mk (Kd.R_below (zr_ HO291.out) hb); replace HO294 := Aside0.mk (Kd.R_below (zr_ HO294.out) hb); replace HO297 := Aside0.mk (Kd.R_below (zr_ HO297.out) hb); have BK299 := Aside0.mk (hbox); have GW299 := Aside0.mk (zs_ hg (zw0_ HB)); have GE299 := Aside0.mk (zs_ hg (zw0_ HB)); replace HB := Aside0.mk (below_step (zw0_ HB) hb); clear hb hbox hg; obtain ⟨Ao19, co19, eo19⟩ := Kd.R_slice HO291.out; subst eo19; have hcz20_0 := zx_ (v := .slice none 0 0) BK299 0; have hcz20_1 := zx_ (v := .slice none 0 0) BK299 1; have hfz20_0 := blk_frozen BK299.out 0; have hfz20_1 := blk_frozen BK299.out 1; obtain ⟨Ao21, co21, eo21⟩ := Kd.R_slice HO294.out; subst eo21))
     repeat (go_quiet (first | (go_at_call 17; (with_reducible refine (carousellaw8_rows.calls 1 (fun k_ => k_ < w.heap.size) _ _ l0 t283 t286 _ ?side1 A11.out).mono ?_); (case side1 => exact Kd.V_mk HC0.out (Kd.F_below (Kd.C_F (Kd.heap_int .i64) HR0.out) (zw0_ HB))); rintro e w14 ⟨v284, v287, rfl, ho0, ho1, hb⟩; have HO285 := Aside0.mk (Kd.R_lower (Kd.R_mono (ok' := fun k_ => True) ho0 (fun _ hk_ => trivial)) (below_size (zw0_ HB))); have HO288 := Aside0.mk (Kd.V_lower (Kd.V_mono (ok' := fun k_ => some k_ ≠ (v284 : Value).ownBlock) ho1 (fun k_ hk_ => hk_.2)) (below_size (zw0_ HB))); replace HB := Aside0.mk (below_step (zw0_ HB) hb); (try clear hb); (try clear ho0); (try clear ho1); obtain ⟨Ao15, co15, eo15⟩ := Kd.R_slice HO285.out; subst eo15; obtain ⟨Ao16, co16, eo16⟩ := Kd.V_slice HO288.out; subst eo16) | (go_at_call 19; (with_reducible refine (conv_Pool.calls kj4 _ _ t283 _ _ t286 a1 t289 t292 t295 t298 _ ?side1 ?side2 ?side3 ?side4 A12.out).mono ?_); (case side1 => exact zk_ ((Kd.R_reads' HO285.out).2.2)); (case side2 => exact (Kd.R_reads' HO285.out).2.1); (case side3 => repeat (first | exact (Kd.V_reads' HO288.out).2.2 | (with_reducible refine Kd.C_alloc ?_ _) | (with_reducible refine Kd.C_drewN ?_ _) | (with_reducible refine Kd.C_drew ?_))); (case side4 => exact (Kd.V_reads' HO288.out).2.1); rintro e w17 ⟨v290, v293, v296, rfl, ho0, ho1, ho2, hb⟩; replace HO288 := Aside0.mk (Kd.V_mono (Kd.V_told (Kd.V_told (Kd.V_told (Kd.V_old (by (with_reducible repeat (first | apply Kd.V_alloc | apply Kd.V_drewN | apply Kd.V_drew)); exact HO288.out) hb) (Kd.R_base ho0)) (Kd.R_base ho1)) (Kd.R_base ho2)) (fun _ h_ => h_.1)); have HO291 := Aside0.mk (Kd.R_lower (Kd.R_new' ho0 (Kd.R_lt (zr_ HO285.out))) (below_size (zw0_ HB))); have HO294 := Aside0.mk (Kd.R_lower ho1 (below_size (zw0_ HB))); have HO297 := Aside0.mk (Kd.R_lower (Kd.R_new' ho2 (Kd.R_lt (zr_ HO285.out))) (below_size (zw0_ HB))); replace HO285 := Aside0.mk (Kd.R_mono (Kd.R_told (Kd.R_told (Kd.R_old (zr_ HO285.out) hb) (Kd.R_base ho0)) (Kd.R_base ho2)) (fun _ h_ => h_.1)); replace HB := Aside0.mk (below_step (zw0_ HB) hb); (try clear hb); (try clear ho0); (try clear ho1); (try clear ho2)) | ((with_reducible refine gate_dst (N := 5) rfl ?_); (try (refine gate_guard (by rfl) ?_; dsimp only)); refine box_event ?hg (N := 5) ?hd (cs := #[.slice none 0 0, .slice none 0 0]) (t := 25) ?hr ?_; (case hd => rfl); (case hg => rfl); (case hr => first | (go_simp; done) | (go_simp; rfl)); intro gb299 hg w18 hbox hb; replace HO285 := Aside0.mk (Kd.R_below (zr_ HO285.out) hb); replace HO288 := Aside0.mk (Kd.V_below (Kd.V_elderB (by (with_reducible repeat (first | apply Kd.V_alloc | apply Kd.V_drewN | apply Kd.V_drew)); exact HO288.out) gb299 (Nat.le_of_eq hg.symm)) hb); replace HO291 := Aside0.mk (Kd.R_below (zr_ HO291.out) hb); replace HO294 := Aside0.mk (Kd.R_below (zr_ HO294.out) hb); replace HO297 := Aside0.mk (Kd.R_below (zr_ HO297.out) hb); have BK299 := Aside0.mk (hbox); have GW299 := Aside0.mk (zs_ hg (zw0_ HB)); have GE299 := Aside0.mk (zs_ hg (zw0_ HB)); replace HB := Aside0.mk (below_step (zw0_ HB) hb); clear hb hbox hg; obtain ⟨Ao19, co19, eo19⟩ := Kd.R_slice HO291.out; subst eo19; have hcz20_0 := zx_ (v := .slice none 0 0) BK299 0; have hcz20_1 := zx_ (v := .slice none 0 0) BK299 1; have hfz20_0 := blk_frozen BK299.out 0; have hfz20_1 := blk_frozen BK299.out 1; obtain ⟨Ao21, co21, eo21⟩ := Kd.R_slice HO294.out; subst eo21)); go_upto_region 6 with (first | (go_at_call 17; (with_reducible refine (carousellaw8_rows.calls 1 (fun k_ => k_ < w.heap.size) _ _ l0 t283 t286 _ ?side1 A11.out).mono ?_); (case side1 => exact Kd.V_mk HC0.out (Kd.F_below (Kd.C_F (Kd.heap_int .i64) HR0.out) (zw0_ HB))); rintro e w14 ⟨v284, v287, rfl, ho0, ho1, hb⟩; have HO285 := Aside0.mk (Kd.R_lower (Kd.R_mono (ok' := fun k_ => True) ho0 (fun _ hk_ => trivial)) (below_size (zw0_ HB))); have HO288 := Aside0.mk (Kd.V_lower (Kd.V_mono (ok' := fun k_ => some k_ ≠ (v284 : Value).ownBlock) ho1 (fun k_ hk_ => hk_.2)) (below_size (zw0_ HB))); replace HB := Aside0.mk (below_step (zw0_ HB) hb); (try clear hb); (try clear ho0); (try clear ho1); obtain ⟨Ao15, co15, eo15⟩ := Kd.R_slice HO285.out; subst eo15; obtain ⟨Ao16, co16, eo16⟩ := Kd.V_slice HO288.out; subst eo16) | (go_at_call 19; (with_reducible refine (conv_Pool.calls kj4 _ _ t283 _ _ t286 a1 t289 t292 t295 t298 _ ?side1 ?side2 ?side3 ?side4 A12.out).mono ?_); (case side1 => exact zk_ ((Kd.R_reads' HO285.out).2.2)); (case side2 => exact (Kd.R_reads' HO285.out).2.1); (case side3 => repeat (first | exact (Kd.V_reads' HO288.out).2.2 | (with_reducible refine Kd.C_alloc ?_ _) | (with_reducible refine Kd.C_drewN ?_ _) | (with_reducible refine Kd.C_drew ?_))); (case side4 => exact (Kd.V_reads' HO288.out).2.1); rintro e w17 ⟨v290, v293, v296, rfl, ho0, ho1, ho2, hb⟩; replace HO288 := Aside0.mk (Kd.V_mono (Kd.V_told (Kd.V_told (Kd.V_told (Kd.V_old (by (with_reducible repeat (first | apply Kd.V_alloc | apply Kd.V_drewN | apply Kd.V_drew)); exact HO288.out) hb) (Kd.R_base ho0)) (Kd.R_base ho1)) (Kd.R_base ho2)) (fun _ h_ => h_.1)); have HO291 := Aside0.mk (Kd.R_lower (Kd.R_new' ho0 (Kd.R_lt (zr_ HO285.out))) (below_size (zw0_ HB))); have HO294 := Aside0.mk (Kd.R_lower ho1 (below_size (zw0_ HB))); have HO297 := Aside0.mk (Kd.R_lower (Kd.R_new' ho2 (Kd.R_lt (zr_ HO285.out))) (below_size (zw0_ HB))); replace HO285 := Aside0.mk (Kd.R_mono (Kd.R_told (Kd.R_told (Kd.R_old (zr_ HO285.out) hb) (Kd.R_base ho0)) (Kd.R_base ho2)) (fun _ h_ => h_.1)); replace HB := Aside0.mk (below_step (zw0_ HB) hb); (try clear hb); (try clear ho0); (try clear ho1); (try clear ho2)) | ((with_reducible refine gate_dst (N := 5) rfl ?_); (try (refine gate_guard (by rfl) ?_; dsimp only)); refine box_event ?hg (N := 5) ?hd (cs := #[.slice none 0 0, .slice none 0 0]) (t := 25) ?hr ?_; (case hd => rfl); (case hg => rfl); (case hr => first | (go_simp; done) | (go_simp; rfl)); intro gb299 hg w18 hbox hb; replace HO285 := Aside0.mk (Kd.R_below (zr_ HO285.out) hb); replace HO288 := Aside0.mk (Kd.V_below (Kd.V_elderB (by (with_reducible repeat (first | apply Kd.V_alloc | apply Kd.V_drewN | apply Kd.V_drew)); exact HO288.out) gb299 (Nat.le_of_eq hg.symm)) hb); replace HO291 := Aside0.mk (Kd.R_below (zr_ HO291.out) hb); replace HO294 := Aside0.mk (Kd.R_below (zr_ HO294.out) hb); replace HO297 := Aside0.mk (Kd.R_below (zr_ HO297.out) hb); have BK299 := Aside0.mk (hbox); have GW299 := Aside0.mk (zs_ hg (zw0_ HB)); have GE299 := Aside0.mk (zs_ hg (zw0_ HB)); replace HB := Aside0.mk (below_step (zw0_ HB) hb); clear hb hbox hg; obtain ⟨Ao19, co19, eo19⟩ := Kd.R_slice HO291.out; subst eo19; have hcz20_0 := zx_ (v := .slice none 0 0) BK299 0; have hcz20_1 := zx_ (v := .slice none 0 0) BK299 1; have hfz20_0 := blk_frozen BK299.out 0; have hfz20_1 := blk_frozen BK299.out 1; obtain ⟨Ao21, co21, eo21⟩ := Kd.R_slice HO294.out; subst eo21)))
     (try simp only [Act.put, List.setIfInBounds_toArray, List.set_cons_zero, List.set_cons_succ])
     go_cut [57] (fun v57 wc => ∃ (kq : Nat) (x57_12 : Bool), v57 = .bool x57_12 ∧ Aside0 (carousellaw8_ConvGreatest.j1 kq l0 a1 t295 x57_12 t289 t292 = some r) ∧ Aside0 (kq ≤ kj4) ∧ Aside0 (Kd.R (Kd.int .i64) 3 wc w.heap.size (fun k_ => some k_ ≠ ((.slice Ao19 t289.length co19) : Value).ownBlock) v296 t295) ∧ Aside0 (Kd.R (Kd.int .i64) 3 wc w.heap.size (fun k_ => some k_ ≠ (v296 : Value).ownBlock) (.slice Ao19 t289.length co19) t289) ∧ Aside0 (Kd.R (Kd.int .i64) 33 wc w.heap.size (fun _ => True) (.slice Ao21 t292.length co21) t292) ∧ Aside0 (wc.heap[gb299]? = some (.cells #[(.slice Ao19 t289.length co19), (.slice Ao21 t292.length co21)] 25 (0, 0))) ∧ Aside0 (Below w.heap.size w wc))
     case first =>
      have H := HC13.out
      clear HC13
      by_cases c22 : t298 = 0
      ·rw [if_pos c22] at H
       have c22b0 : (t298 == 0) = true := beq_iff_eq.mpr c22
       have c22b1 : (t298 != 0) = false := bne_eq_false_iff_eq.mpr c22
       clear c22
       (first | rw [c22b0] | (simp only [i64_w, i32_w]; rw [c22b0]) | skip)
       by_cases c23 : a1 = 0
       ·rw [if_pos c23] at H
        exact absurd H (by simp)
       ·rw [if_neg c23] at H
        have c23b0 : (a1 == 0) = false := beq_eq_false_iff_ne.mpr c23
        have c23b1 : (a1 != 0) = true := bne_iff_ne.mpr c23
        by_cases c24 : (t292.length : Int) = (wrap64 ((l0.length : Int) / a1))
        ·rw [if_pos c24] at H
         have c24b0 : ((t292.length : Int) == (wrap64 ((l0.length : Int) / a1))) = true := beq_iff_eq.mpr c24
         have c24b1 : ((t292.length : Int) != (wrap64 ((l0.length : Int) / a1))) = false := bne_eq_false_iff_eq.mpr c24
         clear c24
         have H' := Aside0.mk H
         clear H
         have hcz25_0 := zx_ (v := .slice none 0 0) BK299 0
         have hcz25_1 := zx_ (v := .slice none 0 0) BK299 1
         have hfz25_0 := blk_frozen BK299.out 0
         have hfz25_1 := blk_frozen BK299.out 1
         obtain ⟨Ao26, co26, eo26⟩ := Kd.R_slice HO297.out
         subst eo26
         go_wp2
         repeat (go_quiet (fail); try go_wp2)
         go_meet
         case rel => exact ⟨_, (((t295.length : Int) != (t292.length : Int))), (by first | rfl | (simp; done) | (simp [*]; done)), H', ⟨by have := HJ4.out; first | omega | exact Nat.le_refl _⟩, ⟨zr_ (Kd.R_mono (Kd.R_far (p := ⟨gb299, 1, none⟩) (Kd.R_far (p := ⟨gb299, 0, none⟩) (Kd.R_types HO297.out BK299.out (by decide)) (fun _ hk => hk.2) (.slice Ao19 t289.length co19)) (fun _ hk => hk.2) (.slice Ao21 t292.length co21)) (fun _ hk => hk.1.1))⟩, ⟨zr_ (Kd.R_mono (Kd.R_far (p := ⟨gb299, 1, none⟩) (Kd.R_far (p := ⟨gb299, 0, none⟩) (Kd.R_types HO291.out BK299.out (by decide)) (fun _ hk => hk.2) (.slice Ao19 t289.length co19)) (fun _ hk => hk.2) (.slice Ao21 t292.length co21)) (fun _ hk => hk.1.1))⟩, ⟨zr_ (Kd.R_mono (Kd.R_far (p := ⟨gb299, 1, none⟩) (Kd.R_far (p := ⟨gb299, 0, none⟩) (Kd.R_types HO294.out BK299.out (by decide)) (fun _ hk => hk.2) (.slice Ao19 t289.length co19)) (fun _ hk => hk.2) (.slice Ao21 t292.length co21)) (fun _ hk => trivial))⟩, ⟨by (with_reducible repeat (first | refine blk_drewN ?_ _ | refine blk_drew ?_ | refine blk_alloc ?_ _)); refine blk_put (cs := #[.slice Ao19 t289.length co19, .slice none 0 0]) ?_ 1 _ rfl; (with_reducible repeat (first | refine blk_drewN ?_ _ | refine blk_drew ?_ | refine blk_alloc ?_ _)); refine blk_put (cs := #[.slice none 0 0, .slice none 0 0]) ?_ 0 _ rfl; (with_reducible repeat (first | refine blk_drewN ?_ _ | refine blk_drew ?_ | refine blk_alloc ?_ _)); exact BK299.out⟩, ⟨zw1_ HB GE299⟩⟩
        ·rw [if_neg c24] at H
         have c24b0 : ((t292.length : Int) == (wrap64 ((l0.length : Int) / a1))) = false := beq_eq_false_iff_ne.mpr c24
         have c24b1 : ((t292.length : Int) != (wrap64 ((l0.length : Int) / a1))) = true := bne_iff_ne.mpr c24
         have H' := Aside0.mk H
         clear H
         have hcz27_0 := zx_ (v := .slice none 0 0) BK299 0
         have hcz27_1 := zx_ (v := .slice none 0 0) BK299 1
         have hfz27_0 := blk_frozen BK299.out 0
         have hfz27_1 := blk_frozen BK299.out 1
         go_wp2
         repeat (go_quiet (fail); try go_wp2)
         go_meet
         case rel => exact ⟨_, (true), (by first | rfl | (simp; done) | (simp [*]; done)), H', ⟨by have := HJ4.out; first | omega | exact Nat.le_refl _⟩, ⟨zr_ (Kd.R_mono (Kd.R_far (p := ⟨gb299, 1, none⟩) (Kd.R_far (p := ⟨gb299, 0, none⟩) (Kd.R_types HO297.out BK299.out (by decide)) (fun _ hk => hk.2) (.slice Ao19 t289.length co19)) (fun _ hk => hk.2) (.slice Ao21 t292.length co21)) (fun _ hk => hk.1.1))⟩, ⟨zr_ (Kd.R_mono (Kd.R_far (p := ⟨gb299, 1, none⟩) (Kd.R_far (p := ⟨gb299, 0, none⟩) (Kd.R_types HO291.out BK299.out (by decide)) (fun _ hk => hk.2) (.slice Ao19 t289.length co19)) (fun _ hk => hk.2) (.slice Ao21 t292.length co21)) (fun _ hk => hk.1.1))⟩, ⟨zr_ (Kd.R_mono (Kd.R_far (p := ⟨gb299, 1, none⟩) (Kd.R_far (p := ⟨gb299, 0, none⟩) (Kd.R_types HO294.out BK299.out (by decide)) (fun _ hk => hk.2) (.slice Ao19 t289.length co19)) (fun _ hk => hk.2) (.slice Ao21 t292.length co21)) (fun _ hk => trivial))⟩, ⟨by (with_reducible repeat (first | refine blk_drewN ?_ _ | refine blk_drew ?_ | refine blk_alloc ?_ _)); refine blk_put (cs := #[.slice Ao19 t289.length co19, .slice none 0 0]) ?_ 1 _ rfl; (with_reducible repeat (first | refine blk_drewN ?_ _ | refine blk_drew ?_ | refine blk_alloc ?_ _)); refine blk_put (cs := #[.slice none 0 0, .slice none 0 0]) ?_ 0 _ rfl; (with_reducible repeat (first | refine blk_drewN ?_ _ | refine blk_drew ?_ | refine blk_alloc ?_ _)); exact BK299.out⟩, ⟨zw1_ HB GE299⟩⟩
      ·rw [if_neg c22] at H
       have c22b0 : (t298 == 0) = false := beq_eq_false_iff_ne.mpr c22
       have c22b1 : (t298 != 0) = true := bne_iff_ne.mpr c22
       (first | rw [c22b0] | (simp only [i64_w, i32_w]; rw [c22b0]) | skip)
       have H' := Aside0.mk H
       clear H
       go_wp2
       repeat (go_quiet (fail); try go_wp2)
       go_meet
       case rel => exact ⟨_, (true), (by first | rfl | (simp; done) | (simp [*]; done)), H', ⟨by have := HJ4.out; first | omega | exact Nat.le_refl _⟩, ⟨zr_ (Kd.R_mono (Kd.R_far (p := ⟨gb299, 1, none⟩) (Kd.R_far (p := ⟨gb299, 0, none⟩) (Kd.R_types HO297.out BK299.out (by decide)) (fun _ hk => hk.2) (.slice Ao19 t289.length co19)) (fun _ hk => hk.2) (.slice Ao21 t292.length co21)) (fun _ hk => hk.1.1))⟩, ⟨zr_ (Kd.R_mono (Kd.R_far (p := ⟨gb299, 1, none⟩) (Kd.R_far (p := ⟨gb299, 0, none⟩) (Kd.R_types HO291.out BK299.out (by decide)) (fun _ hk => hk.2) (.slice Ao19 t289.length co19)) (fun _ hk => hk.2) (.slice Ao21 t292.length co21)) (fun _ hk => hk.1.1))⟩, ⟨zr_ (Kd.R_mono (Kd.R_far (p := ⟨gb299, 1, none⟩) (Kd.R_far (p := ⟨gb299, 0, none⟩) (Kd.R_types HO294.out BK299.out (by decide)) (fun _ hk => hk.2) (.slice Ao19 t289.length co19)) (fun _ hk => hk.2) (.slice Ao21 t292.length co21)) (fun _ hk => trivial))⟩, ⟨by (with_reducible repeat (first | refine blk_drewN ?_ _ | refine blk_drew ?_ | refine blk_alloc ?_ _)); refine blk_put (cs := #[.slice Ao19 t289.length co19, .slice none 0 0]) ?_ 1 _ rfl; (with_reducible repeat (first | refine blk_drewN ?_ _ | refine blk_drew ?_ | refine blk_alloc ?_ _)); refine blk_put (cs := #[.slice none 0 0, .slice none 0 0]) ?_ 0 _ rfl; (with_reducible repeat (first | refine blk_drewN ?_ _ | refine blk_drew ?_ | refine blk_alloc ?_ _)); exact BK299.out⟩, ⟨zw1_ HB GE299⟩⟩
     case rest =>
      clear HC13
      try clear c1
      try clear c2
      try clear p2
      try clear c4
      try clear p6
      try clear c7
      try clear c7b0
      try clear c7b1
      try clear c8
      try clear c8b0
      try clear c8b1
      try clear c9
      try clear c9b0
      try clear c10
      try clear c22
      try clear c22b0
      try clear c22b1
      try clear c23
      try clear c23b0
      try clear c23b1
      try clear c24
      try clear c24b0
      try clear c24b1
      try clear hcz20_0
      try clear hcz20_1
      try clear hcz25_0
      try clear hcz25_1
      try clear hcz27_0
      try clear hcz27_1
      try clear hfz20_0
      try clear hfz20_1
      try clear hfz25_0
      try clear hfz25_1
      try clear hfz27_0
      try clear hfz27_1
      try clear p2
      obtain ⟨kq, x57_12, rfl, HA, HJ12, HO_6, HO_300000, HO_300001, BK299, HB⟩ := hcut
      cases kq with
      | zero => exact absurd HA.out (by simp [carousellaw8_ConvGreatest.j1])
      | succ kj12 =>
       have H := HA.out
       clear HA
       simp only [carousellaw8_ConvGreatest.j1] at H
       by_cases c28 : x57_12 = true
       ·subst c28
        have H1 : (none) = some r := by rw [if_pos rfl] at H; exact H
        clear H
        have H := H1
        clear H1
        exact absurd H (by simp)
       ·replace c28 := Bool.eq_false_iff.mpr c28
        subst c28
        have H1 : (carousellaw8_ConvGreatest.l0 kj12 l0 a1 t295 0 t289 t292) = some r := by rw [if_neg (show ¬ (false = true) by decide)] at H; exact H
        clear H
        have H := H1
        clear H1
        have H' := Aside0.mk H
        clear H
        go_wp2
        repeat (go_quiet (fail); try go_wp2)
        go_loopg [8] kj12 (fun kq v8 w' => ∃ (x8_3 : Int), v8 = .int .i64 x8_3 ∧ Aside0 (carousellaw8_ConvGreatest.l0 kq l0 a1 t295 x8_3 t289 t292 = some r) ∧ Aside0 (kq ≤ kj12) ∧ Aside0 (Kd.R (Kd.int .i64) 3 w' w.heap.size (fun k_ => some k_ ≠ ((.slice Ao19 t289.length co19) : Value).ownBlock) v296 t295) ∧ Aside0 (Kd.R (Kd.int .i64) 3 w' w.heap.size (fun k_ => some k_ ≠ (v296 : Value).ownBlock) (.slice Ao19 t289.length co19) t289) ∧ Aside0 (Kd.R (Kd.int .i64) 33 w' w.heap.size (fun _ => True) (.slice Ao21 t292.length co21) t292) ∧ Aside0 (w'.heap[gb299]? = some (.cells #[(.slice Ao19 t289.length co19), (.slice Ao21 t292.length co21)] 25 (0, 0))) ∧ Aside0 (Below w.heap.size w w'))
        case atStart => exact ⟨(0), (by first | rfl | (simp; done) | (simp [*]; done)), H', ⟨Nat.le_refl _⟩, ⟨zr_ HO_6.out⟩, ⟨zr_ HO_300000.out⟩, ⟨zr_ HO_300001.out⟩, ⟨zb_ BK299⟩, ⟨zw1_ HB GE299⟩⟩
        case round =>
         clear H'
         try clear c1
         try clear c2
         try clear p2
         try clear c4
         try clear p6
         try clear c7
         try clear c7b0
         try clear c7b1
         try clear c8
         try clear c8b0
         try clear c8b1
         try clear c9
         try clear c9b0
         try clear c10
         try clear c22
         try clear c22b0
         try clear c22b1
         try clear c23
         try clear c23b0
         try clear c23b1
         try clear c24
         try clear c24b0
         try clear c24b1
         try clear c28
         try clear hcz20_0
         try clear hcz20_1
         try clear hcz25_0
         try clear hcz25_1
         try clear hcz27_0
         try clear hcz27_1
         try clear hfz20_0
         try clear hfz20_1
         try clear hfz25_0
         try clear hfz25_1
         try clear hfz27_0
         try clear hfz27_1
         try clear p2
         try clear p6
         obtain ⟨x8_3, rfl, HA, HK3, HO_6, HO_300000, HO_300001, BK299, HB⟩ := hrel
         cases gk with
         | zero => exact absurd HA.out (by simp [carousellaw8_ConvGreatest.l0])
         | succ k3 =>
          have H := HA.out
          clear HA
          simp only [carousellaw8_ConvGreatest.l0] at H
          by_cases c29 : x8_3 < (t295.length : Int)
          ·rw [if_pos c29] at H
           have c29b0 : decide (x8_3 < (t295.length : Int)) = true := decide_eq_true c29
           clear c29
           have HC30 := Aside0.mk H
           clear H
           obtain ⟨Ao31, co31, eo31⟩ := Kd.R_slice HO_6.out
           subst eo31
           go_upto_region 11 with (fail)
           repeat (go_quiet (fail); go_upto_region 11 with (fail))
           go_cut [98] (fun v98 wc => ∃ (kq : Nat) (x98_29 : Bool), v98 = .bool x98_29 ∧ Aside0 (carousellaw8_ConvGreatest.j3 kq l0 a1 t295 x8_3 x98_29 t289 t292 = some r) ∧ Aside0 (kq ≤ k3) ∧ Aside0 (Kd.R (Kd.int .i64) 3 wc w.heap.size (fun k_ => some k_ ≠ ((.slice Ao19 t289.length co19) : Value).ownBlock) (.slice Ao31 t295.length co31) t295) ∧ Aside0 (Kd.R (Kd.int .i64) 3 wc w.heap.size (fun k_ => some k_ ≠ ((.slice Ao31 t295.length co31) : Value).ownBlock) (.slice Ao19 t289.length co19) t289) ∧ Aside0 (Kd.R (Kd.int .i64) 33 wc w.heap.size (fun _ => True) (.slice Ao21 t292.length co21) t292) ∧ Aside0 (wc.heap[gb299]? = some (.cells #[(.slice Ao19 t289.length co19), (.slice Ao21 t292.length co21)] 25 (0, 0))) ∧ Aside0 (Below w.heap.size w wc))
           case first =>
            have H := HC30.out
            clear HC30
            by_cases c32 : 0 ≤ x8_3
            ·rw [if_pos c32] at H
             have c32b0 : decide (0 ≤ x8_3) = true := decide_eq_true c32
             clear c32
             (first | rw [c32b0] | (simp only [i64_w, i32_w]; rw [c32b0]) | skip)
             by_cases c33 : (rd t295 x8_3) < (wrap64 (x8_3 * a1))
             ·rw [if_pos c33] at H
              have c33b0 : decide ((rd t295 x8_3) < (wrap64 (x8_3 * a1))) = true := decide_eq_true c33
              clear c33
              have H' := Aside0.mk H
              clear H
              have p300 : 0 ≤ (x8_3 : Int) := of_decide_eq_true (by first | (with_reducible assumption) | assumption)
              have q300 : x8_3 < (t295.length : Int) := of_decide_eq_true (by first | (with_reducible assumption) | assumption)
              obtain ⟨ad300, e300, hx300_0⟩ := Kd.at_int (Kd.R_reads' HO_6.out).2.2 x8_3 p300 q300
              cases e300
              replace p300 := eq_true p300
              replace q300 := eq_true q300
              go_wp2
              repeat (go_quiet (fail); try go_wp2)
              go_meet
              case rel => exact ⟨_, (true), (by first | rfl | (simp; done) | (simp [*]; done)), H', ⟨by have := HJ4.out; have := HJ12.out; have := HK3.out; first | omega | exact Nat.le_refl _⟩, ⟨zr_ HO_6.out⟩, ⟨zr_ HO_300000.out⟩, ⟨zr_ HO_300001.out⟩, ⟨zb_ BK299⟩, ⟨zw1_ HB GE299⟩⟩
             ·rw [if_neg c33] at H
              have c33b0 : decide ((rd t295 x8_3) < (wrap64 (x8_3 * a1))) = false := decide_eq_false c33
              clear c33
              by_cases c34 : (rd t295 x8_3) ≥ (wrap64 ((wrap64 (x8_3 * a1)) + a1))
              ·rw [if_pos c34] at H
               have c34b0 : decide ((wrap64 ((wrap64 (x8_3 * a1)) + a1)) ≤ (rd t295 x8_3)) = true := decide_eq_true c34
               clear c34
               have H' := Aside0.mk H
               clear H
               have p300 : 0 ≤ (x8_3 : Int) := of_decide_eq_true (by first | (with_reducible assumption) | assumption)
               have q300 : x8_3 < (t295.length : Int) := of_decide_eq_true (by first | (with_reducible assumption) | assumption)
               obtain ⟨ad300, e300, hx300_0⟩ := Kd.at_int (Kd.R_reads' HO_6.out).2.2 x8_3 p300 q300
               cases e300
               replace p300 := eq_true p300
               replace q300 := eq_true q300
               have p301 : 0 ≤ (x8_3 : Int) := of_decide_eq_true (by first | (with_reducible assumption) | assumption)
               have q301 : x8_3 < (t295.length : Int) := of_decide_eq_true (by first | (with_reducible assumption) | assumption)
               obtain ⟨ad301, e301, hx301_0⟩ := Kd.at_int (Kd.R_reads' HO_6.out).2.2 x8_3 p301 q301
               obtain rfl : ad300 = ad301 := (by injection e301)
               replace p301 := eq_true p301
               replace q301 := eq_true q301
               go_wp2
               repeat (go_quiet (fail); try go_wp2)
               go_meet
               case rel => exact ⟨_, (true), (by first | rfl | (simp; done) | (simp [*]; done)), H', ⟨by have := HJ4.out; have := HJ12.out; have := HK3.out; first | omega | exact Nat.le_refl _⟩, ⟨zr_ HO_6.out⟩, ⟨zr_ HO_300000.out⟩, ⟨zr_ HO_300001.out⟩, ⟨zb_ BK299⟩, ⟨zw1_ HB GE299⟩⟩
              ·rw [if_neg c34] at H
               have c34b0 : decide ((wrap64 ((wrap64 (x8_3 * a1)) + a1)) ≤ (rd t295 x8_3)) = false := decide_eq_false c34
               clear c34
               by_cases c35 : 0 ≤ (rd t295 x8_3)
               ·rw [if_pos c35] at H
                have c35b0 : decide (0 ≤ (rd t295 x8_3)) = true := decide_eq_true c35
                clear c35
                by_cases c36 : (rd t295 x8_3) < (l0.length : Int)
                ·rw [if_pos c36] at H
                 have c36b0 : decide ((rd t295 x8_3) < (l0.length : Int)) = true := decide_eq_true c36
                 clear c36
                 by_cases c37 : x8_3 < (t292.length : Int)
                 ·rw [if_pos c37] at H
                  have c37b0 : decide (x8_3 < (t292.length : Int)) = true := decide_eq_true c37
                  clear c37
                  have H' := Aside0.mk H
                  clear H
                  have p300 : 0 ≤ (x8_3 : Int) := of_decide_eq_true (by first | (with_reducible assumption) | assumption)
                  have q300 : x8_3 < (t295.length : Int) := of_decide_eq_true (by first | (with_reducible assumption) | assumption)
                  obtain ⟨ad300, e300, hx300_0⟩ := Kd.at_int (Kd.R_reads' HO_6.out).2.2 x8_3 p300 q300
                  cases e300
                  replace p300 := eq_true p300
                  replace q300 := eq_true q300
                  have p301 : 0 ≤ (x8_3 : Int) := of_decide_eq_true (by first | (with_reducible assumption) | assumption)
                  have q301 : x8_3 < (t295.length : Int) := of_decide_eq_true (by first | (with_reducible assumption) | assumption)
                  obtain ⟨ad301, e301, hx301_0⟩ := Kd.at_int (Kd.R_reads' HO_6.out).2.2 x8_3 p301 q301
                  obtain rfl : ad300 = ad301 := (by injection e301)
                  replace p301 := eq_true p301
                  replace q301 := eq_true q301
                  have p302 : 0 ≤ (x8_3 : Int) := of_decide_eq_true (by first | (with_reducible assumption) | assumption)
                  have q302 : x8_3 < (t295.length : Int) := of_decide_eq_true (by first | (with_reducible assumption) | assumption)
                  obtain ⟨ad302, e302, hx302_0⟩ := Kd.at_int (Kd.R_reads' HO_6.out).2.2 x8_3 p302 q302
                  obtain rfl : ad300 = ad302 := (by injection e302)
                  replace p302 := eq_true p302
                  replace q302 := eq_true q302
                  have p303 : 0 ≤ ((rd t295 x8_3) : Int) := of_decide_eq_true (by first | (with_reducible assumption) | assumption)
                  have q303 : (rd t295 x8_3) < (l0.length : Int) := of_decide_eq_true (by first | (with_reducible assumption) | assumption)
                  obtain ⟨ad303, e303, hx303_0⟩ := Kd.at_int HR0.out (rd t295 x8_3) p303 q303
                  cases e303
                  replace hx303_0 := (HB.out.cell (World.block_lt_of_cell? w _ hx303_0)).trans hx303_0
                  replace p303 := eq_true p303
                  replace q303 := eq_true q303
                  have hcz38_0 := zx_ (v := .slice Ao19 t289.length co19) BK299 0
                  have hcz38_1 := zx_ (v := .slice Ao21 t292.length co21) BK299 1
                  have hfz38_0 := blk_frozen BK299.out 0
                  have hfz38_1 := blk_frozen BK299.out 1
                  have p304 : 0 ≤ (x8_3 : Int) := of_decide_eq_true (by first | (with_reducible assumption) | assumption)
                  have q304 : x8_3 < (t292.length : Int) := of_decide_eq_true (by first | (with_reducible assumption) | assumption)
                  obtain ⟨ad304, e304, hx304_0⟩ := Kd.at_int (Kd.R_reads' HO_300001.out).2.2 x8_3 p304 q304
                  cases e304
                  replace p304 := eq_true p304
                  replace q304 := eq_true q304
                  go_wp2
                  repeat (go_quiet (fail); try go_wp2)
                  go_meet
                  case rel => exact ⟨_, (((rd l0 (rd t295 x8_3)) != (rd t292 x8_3))), (by first | rfl | (simp; done) | (simp [*]; done)), H', ⟨by have := HJ4.out; have := HJ12.out; have := HK3.out; first | omega | exact Nat.le_refl _⟩, ⟨zr_ HO_6.out⟩, ⟨zr_ HO_300000.out⟩, ⟨zr_ HO_300001.out⟩, ⟨zb_ BK299⟩, ⟨zw1_ HB GE299⟩⟩
                 ·rw [if_neg c37] at H
                  exact absurd H (by simp)
                ·rw [if_neg c36] at H
                 exact absurd H (by simp)
               ·rw [if_neg c35] at H
                exact absurd H (by simp)
            ·rw [if_neg c32] at H
             exact absurd H (by simp)
           case rest =>
            clear HC30
            try clear c1
            try clear c2
            try clear p2
            try clear c3
            try clear p3
            try clear q3
            try clear hx3
            try clear c4
            try clear p6
            try clear c7
            try clear c7b0
            try clear c7b1
            try clear c8
            try clear c8b0
            try clear c8b1
            try clear c9
            try clear c9b0
            try clear c10
            try clear c22
            try clear c22b0
            try clear c22b1
            try clear c23
            try clear c23b0
            try clear c23b1
            try clear c24
            try clear c24b0
            try clear c24b1
            try clear c28
            try clear c29
            try clear c29b0
            try clear p30
            try clear q30
            try clear hx30
            try clear c32
            try clear c32b0
            try clear c33
            try clear c33b0
            try clear c34
            try clear c34b0
            try clear c35
            try clear c35b0
            try clear c36
            try clear c36b0
            try clear c37
            try clear c37b0
            try clear hcz20_0
            try clear hcz20_1
            try clear hcz25_0
            try clear hcz25_1
            try clear hcz27_0
            try clear hcz27_1
            try clear hcz38_0
            try clear hcz38_1
            try clear hfz20_0
            try clear hfz20_1
            try clear hfz25_0
            try clear hfz25_1
            try clear hfz27_0
            try clear hfz27_1
            try clear hfz38_0
            try clear hfz38_1
            try clear hx300_0
            try clear hx301_0
            try clear hx302_0
            try clear hx303_0
            try clear hx304_0
            try clear p2
            try clear p300
            try clear p301
            try clear p302
            try clear p303
            try clear p304
            try clear p6
            try clear q300
            try clear q301
            try clear q302
            try clear q303
            try clear q304
            obtain ⟨kq, x98_29, rfl, HA, HJ29, HO_6, HO_300000, HO_300001, BK299, HB⟩ := hcut
            cases kq with
            | zero => exact absurd HA.out (by simp [carousellaw8_ConvGreatest.j3])
            | succ kj29 =>
             have H := HA.out
             clear HA
             simp only [carousellaw8_ConvGreatest.j3] at H
             by_cases c39 : x98_29 = true
             ·subst c39
              have H1 : (none) = some r := by rw [if_pos rfl] at H; exact H
              clear H
              have H := H1
              clear H1
              exact absurd H (by simp)
             ·replace c39 := Bool.eq_false_iff.mpr c39
              subst c39
              have H1 := H
              rw [if_neg (show ¬ (false = true) by decide)] at H1
              clear H
              have H := H1
              clear H1
              have H' := Aside0.mk H
              clear H
              go_wp2
              repeat (go_quiet (fail); try go_wp2)
              go_loopg [9] kj29 (fun kq v9 w' => ∃ (x9_5 : Int), v9 = .int .i64 x9_5 ∧ Aside0 (carousellaw8_ConvGreatest.l1 kq l0 a1 t295 x8_3 x9_5 t289 t292 = some r) ∧ Aside0 (kq ≤ kj29) ∧ Aside0 (Kd.R (Kd.int .i64) 3 w' w.heap.size (fun k_ => some k_ ≠ ((.slice Ao19 t289.length co19) : Value).ownBlock) (.slice Ao31 t295.length co31) t295) ∧ Aside0 (Kd.R (Kd.int .i64) 3 w' w.heap.size (fun k_ => some k_ ≠ ((.slice Ao31 t295.length co31) : Value).ownBlock) (.slice Ao19 t289.length co19) t289) ∧ Aside0 (Kd.R (Kd.int .i64) 33 w' w.heap.size (fun _ => True) (.slice Ao21 t292.length co21) t292) ∧ Aside0 (w'.heap[gb299]? = some (.cells #[(.slice Ao19 t289.length co19), (.slice Ao21 t292.length co21)] 25 (0, 0))) ∧ Aside0 (Below w.heap.size w w'))
              case atStart => exact ⟨(wrap64 (x8_3 * a1)), (by first | rfl | (simp; done) | (simp [*]; done)), H', ⟨Nat.le_refl _⟩, ⟨zr_ HO_6.out⟩, ⟨zr_ HO_300000.out⟩, ⟨zr_ HO_300001.out⟩, ⟨zb_ BK299⟩, ⟨zw1_ HB GE299⟩⟩
              case round =>
               clear H'
               try clear c1
               try clear c2
               try clear p2
               try clear c3
               try clear p3
               try clear q3
               try clear hx3
               try clear c4
               try clear p6
               try clear c7
               try clear c7b0
               try clear c7b1
               try clear c8
               try clear c8b0
               try clear c8b1
               try clear c9
               try clear c9b0
               try clear c10
               try clear c22
               try clear c22b0
               try clear c22b1
               try clear c23
               try clear c23b0
               try clear c23b1
               try clear c24
               try clear c24b0
               try clear c24b1
               try clear c28
               try clear c29
               try clear c29b0
               try clear p30
               try clear q30
               try clear hx30
               try clear c32
               try clear c32b0
               try clear c33
               try clear c33b0
               try clear c34
               try clear c34b0
               try clear c35
               try clear c35b0
               try clear c36
               try clear c36b0
               try clear c37
               try clear c37b0
               try clear c39
               try clear hcz20_0
               try clear hcz20_1
               try clear hcz25_0
               try clear hcz25_1
               try clear hcz27_0
               try clear hcz27_1
               try clear hcz38_0
               try clear hcz38_1
               try clear hfz20_0
               try clear hfz20_1
               try clear hfz25_0
               try clear hfz25_1
               try clear hfz27_0
               try clear hfz27_1
               try clear hfz38_0
               try clear hfz38_1
               try clear hx300_0
               try clear hx301_0
               try clear hx302_0
               try clear hx303_0
               try clear hx304_0
               try clear p2
               try clear p3
               try clear p30
               try clear p300
               try clear p301
               try clear p302
               try clear p303
               try clear p304
               try clear p6
               try clear q3
               try clear q30
               try clear q300
               try clear q301
               try clear q302
               try clear q303
               try clear q304
               obtain ⟨x9_5, rfl, HA, HK5, HO_6, HO_300000, HO_300001, BK299, HB⟩ := hrel
               cases gk with
               | zero => exact absurd HA.out (by simp [carousellaw8_ConvGreatest.l1])
               | succ k5 =>
                have H := HA.out
                clear HA
                simp only [carousellaw8_ConvGreatest.l1] at H
                by_cases c40 : x9_5 < (wrap64 ((wrap64 (x8_3 * a1)) + a1))
                ·rw [if_pos c40] at H
                 have c40b0 : decide (x9_5 < (wrap64 ((wrap64 (x8_3 * a1)) + a1))) = true := decide_eq_true c40
                 clear c40
                 by_cases c41 : 0 ≤ x9_5
                 ·rw [if_pos c41] at H
                  have c41b0 : decide (0 ≤ x9_5) = true := decide_eq_true c41
                  clear c41
                  by_cases c42 : x9_5 < (l0.length : Int)
                  ·rw [if_pos c42] at H
                   have c42b0 : decide (x9_5 < (l0.length : Int)) = true := decide_eq_true c42
                   clear c42
                   by_cases c43 : 0 ≤ x8_3
                   ·rw [if_pos c43] at H
                    have c43b0 : decide (0 ≤ x8_3) = true := decide_eq_true c43
                    clear c43
                    by_cases c44 : x8_3 < (t292.length : Int)
                    ·rw [if_pos c44] at H
                     have c44b0 : decide (x8_3 < (t292.length : Int)) = true := decide_eq_true c44
                     clear c44
                     by_cases c45 : (rd l0 x9_5) > (rd t292 x8_3)
                     ·rw [if_pos c45] at H
                      exact absurd H (by simp)
                     ·rw [if_neg c45] at H
                      have c45b0 : decide ((rd t292 x8_3) < (rd l0 x9_5)) = false := decide_eq_false c45
                      clear c45
                      by_cases c46 : (rd l0 x9_5) = (rd t292 x8_3)
                      ·rw [if_pos c46] at H
                       have c46b0 : ((rd l0 x9_5) == (rd t292 x8_3)) = true := beq_iff_eq.mpr c46
                       have c46b1 : ((rd l0 x9_5) != (rd t292 x8_3)) = false := bne_eq_false_iff_eq.mpr c46
                       clear c46
                       by_cases c47 : x8_3 < (t295.length : Int)
                       ·rw [if_pos c47] at H
                        have c47b0 : decide (x8_3 < (t295.length : Int)) = true := decide_eq_true c47
                        clear c47
                        by_cases c48 : x9_5 < (rd t295 x8_3)
                        ·rw [if_pos c48] at H
                         exact absurd H (by simp)
                        ·rw [if_neg c48] at H
                         have c48b0 : decide (x9_5 < (rd t295 x8_3)) = false := decide_eq_false c48
                         clear c48
                         have H' := Aside0.mk H
                         clear H
                         have p305 : 0 ≤ (x9_5 : Int) := of_decide_eq_true (by first | (with_reducible assumption) | assumption)
                         have q305 : x9_5 < (l0.length : Int) := of_decide_eq_true (by first | (with_reducible assumption) | assumption)
                         obtain ⟨ad305, e305, hx305_0⟩ := Kd.at_int HR0.out x9_5 p305 q305
                         cases e305
                         replace hx305_0 := (HB.out.cell (World.block_lt_of_cell? w _ hx305_0)).trans hx305_0
                         replace p305 := eq_true p305
                         replace q305 := eq_true q305
                         have hcz49_0 := zx_ (v := .slice Ao19 t289.length co19) BK299 0
                         have hcz49_1 := zx_ (v := .slice Ao21 t292.length co21) BK299 1
                         have hfz49_0 := blk_frozen BK299.out 0
                         have hfz49_1 := blk_frozen BK299.out 1
                         have p306 : 0 ≤ (x8_3 : Int) := of_decide_eq_true (by first | (with_reducible assumption) | assumption)
                         have q306 : x8_3 < (t292.length : Int) := of_decide_eq_true (by first | (with_reducible assumption) | assumption)
                         obtain ⟨ad306, e306, hx306_0⟩ := Kd.at_int (Kd.R_reads' HO_300001.out).2.2 x8_3 p306 q306
                         cases e306
                         replace p306 := eq_true p306
                         replace q306 := eq_true q306
                         have p307 : 0 ≤ (x9_5 : Int) := of_decide_eq_true (by first | (with_reducible assumption) | assumption)
                         have q307 : x9_5 < (l0.length : Int) := of_decide_eq_true (by first | (with_reducible assumption) | assumption)
                         obtain ⟨ad307, e307, hx307_0⟩ := Kd.at_int HR0.out x9_5 p307 q307
                         obtain rfl : ad305 = ad307 := (by injection e307)
                         replace hx307_0 := (HB.out.cell (World.block_lt_of_cell? w _ hx307_0)).trans hx307_0
                         replace p307 := eq_true p307
                         replace q307 := eq_true q307
                         have p308 : 0 ≤ (x8_3 : Int) := of_decide_eq_true (by first | (with_reducible assumption) | assumption)
                         have q308 : x8_3 < (t292.length : Int) := of_decide_eq_true (by first | (with_reducible assumption) | assumption)
                         obtain ⟨ad308, e308, hx308_0⟩ := Kd.at_int (Kd.R_reads' HO_300001.out).2.2 x8_3 p308 q308
                         obtain rfl : ad306 = ad308 := (by injection e308)
                         replace p308 := eq_true p308
                         replace q308 := eq_true q308
                         have p309 : 0 ≤ (x8_3 : Int) := of_decide_eq_true (by first | (with_reducible assumption) | assumption)
                         have q309 : x8_3 < (t295.length : Int) := of_decide_eq_true (by first | (with_reducible assumption) | assumption)
                         obtain ⟨ad309, e309, hx309_0⟩ := Kd.at_int (Kd.R_reads' HO_6.out).2.2 x8_3 p309 q309
                         cases e309
                         replace p309 := eq_true p309
                         replace q309 := eq_true q309
                         go_wp2
                         repeat (go_quiet (fail); try go_wp2)
                         go_roundg k5
                         case measure => have := HJ4.out; have := HJ12.out; have := HK3.out; have := HJ29.out; have := HK5.out; omega
                         case rel => exact ⟨(wrap64 (x9_5 + 1)), (by first | rfl | (simp; done) | (simp [*]; done)), H', ⟨by have := HJ4.out; have := HJ12.out; have := HK3.out; have := HJ29.out; have := HK5.out; omega⟩, ⟨zr_ HO_6.out⟩, ⟨zr_ HO_300000.out⟩, ⟨zr_ HO_300001.out⟩, ⟨zb_ BK299⟩, ⟨zw1_ HB GE299⟩⟩
                       ·rw [if_neg c47] at H
                        exact absurd H (by simp)
                      ·rw [if_neg c46] at H
                       have c46b0 : ((rd l0 x9_5) == (rd t292 x8_3)) = false := beq_eq_false_iff_ne.mpr c46
                       have c46b1 : ((rd l0 x9_5) != (rd t292 x8_3)) = true := bne_iff_ne.mpr c46
                       have H' := Aside0.mk H
                       clear H
                       have p305 : 0 ≤ (x9_5 : Int) := of_decide_eq_true (by first | (with_reducible assumption) | assumption)
                       have q305 : x9_5 < (l0.length : Int) := of_decide_eq_true (by first | (with_reducible assumption) | assumption)
                       obtain ⟨ad305, e305, hx305_0⟩ := Kd.at_int HR0.out x9_5 p305 q305
                       cases e305
                       replace hx305_0 := (HB.out.cell (World.block_lt_of_cell? w _ hx305_0)).trans hx305_0
                       replace p305 := eq_true p305
                       replace q305 := eq_true q305
                       have hcz50_0 := zx_ (v := .slice Ao19 t289.length co19) BK299 0
                       have hcz50_1 := zx_ (v := .slice Ao21 t292.length co21) BK299 1
                       have hfz50_0 := blk_frozen BK299.out 0
                       have hfz50_1 := blk_frozen BK299.out 1
                       have p306 : 0 ≤ (x8_3 : Int) := of_decide_eq_true (by first | (with_reducible assumption) | assumption)
                       have q306 : x8_3 < (t292.length : Int) := of_decide_eq_true (by first | (with_reducible assumption) | assumption)
                       obtain ⟨ad306, e306, hx306_0⟩ := Kd.at_int (Kd.R_reads' HO_300001.out).2.2 x8_3 p306 q306
                       cases e306
                       replace p306 := eq_true p306
                       replace q306 := eq_true q306
                       have p307 : 0 ≤ (x9_5 : Int) := of_decide_eq_true (by first | (with_reducible assumption) | assumption)
                       have q307 : x9_5 < (l0.length : Int) := of_decide_eq_true (by first | (with_reducible assumption) | assumption)
                       obtain ⟨ad307, e307, hx307_0⟩ := Kd.at_int HR0.out x9_5 p307 q307
                       obtain rfl : ad305 = ad307 := (by injection e307)
                       replace hx307_0 := (HB.out.cell (World.block_lt_of_cell? w _ hx307_0)).trans hx307_0
                       replace p307 := eq_true p307
                       replace q307 := eq_true q307
                       have p308 : 0 ≤ (x8_3 : Int) := of_decide_eq_true (by first | (with_reducible assumption) | assumption)
                       have q308 : x8_3 < (t292.length : Int) := of_decide_eq_true (by first | (with_reducible assumption) | assumption)
                       obtain ⟨ad308, e308, hx308_0⟩ := Kd.at_int (Kd.R_reads' HO_300001.out).2.2 x8_3 p308 q308
                       obtain rfl : ad306 = ad308 := (by injection e308)
                       replace p308 := eq_true p308
                       replace q308 := eq_true q308
                       go_wp2
                       repeat (go_quiet (fail); try go_wp2)
                       go_roundg k5
                       case measure => have := HJ4.out; have := HJ12.out; have := HK3.out; have := HJ29.out; have := HK5.out; omega
                       case rel => exact ⟨(wrap64 (x9_5 + 1)), (by first | rfl | (simp; done) | (simp [*]; done)), H', ⟨by have := HJ4.out; have := HJ12.out; have := HK3.out; have := HJ29.out; have := HK5.out; omega⟩, ⟨zr_ HO_6.out⟩, ⟨zr_ HO_300000.out⟩, ⟨zr_ HO_300001.out⟩, ⟨zb_ BK299⟩, ⟨zw1_ HB GE299⟩⟩
                    ·rw [if_neg c44] at H
                     exact absurd H (by simp)
                   ·rw [if_neg c43] at H
                    exact absurd H (by simp)
                  ·rw [if_neg c42] at H
                   exact absurd H (by simp)
                 ·rw [if_neg c41] at H
                  exact absurd H (by simp)
                ·rw [if_neg c40] at H
                 have c40b0 : decide (x9_5 < (wrap64 ((wrap64 (x8_3 * a1)) + a1))) = false := decide_eq_false c40
                 clear c40
                 have H' := Aside0.mk H
                 clear H
                 go_wp2
                 repeat (go_quiet (fail); try go_wp2)
                 go_roundg k5
                 case measure => have := HJ4.out; have := HJ12.out; have := HK3.out; have := HJ29.out; have := HK5.out; omega
                 case rel => exact ⟨(wrap64 (x8_3 + 1)), (by first | rfl | (simp; done) | (simp [*]; done)), H', ⟨by have := HJ4.out; have := HJ12.out; have := HK3.out; have := HJ29.out; have := HK5.out; omega⟩, ⟨zr_ HO_6.out⟩, ⟨zr_ HO_300000.out⟩, ⟨zr_ HO_300001.out⟩, ⟨zb_ BK299⟩, ⟨zw1_ HB GE299⟩⟩
          ·rw [if_neg c29] at H
           have c29b0 : decide (x8_3 < (t295.length : Int)) = false := decide_eq_false c29
           clear c29
           obtain rfl := Option.some.inj H
           obtain ⟨Ao51, co51, eo51⟩ := Kd.R_slice HO_6.out
           subst eo51
           go_wp2
           repeat (go_quiet (fail); try go_wp2)
           go_ret
           exact ⟨by first | rfl | (simp [errW_none, errW_some] <;> rfl) | (simp [*, errW_none, errW_some] <;> rfl), zw1_ HB GE299⟩
 ·replace c4 := Bool.eq_false_iff.mpr c4
  subst c4
  have H1 : (none) = some r := by rw [if_neg (show ¬ (false = true) by decide)] at H; exact H
  clear H
  have H := H1
  clear H1
  exact absurd H (by simp)

/-- THE ONE PURE STATEMENT of carousellaw8_ConvGreatest: yours. -/
def carousellaw8_ConvGreatest.Pure : Prop := ∀ (l0 : List Int) (a1 : Int), l0.length ≤ maxLen → l0.length * 8 ≤ 140737488351232 → (∀ x ∈ l0, (Lit.int .i64 x).wf = true) → (Lit.int .i64 a1).wf = true → ∃ k, carousellaw8_ConvGreatest.f k l0 a1 = some true
theorem carousellaw8_ConvGreatest.walk (P : carousellaw8_ConvGreatest.Pure) (a0 : Option Addr) (len0 cap0 : Nat) (z0 : List Int) (a1 : Int) (w : World) (w0 : (a0 = none ∧ len0 = 0 ∧ cap0 = 0 ∧ z0 = []) ∨ ∃ x, a0 = some x ∧ len0 ≤ cap0 ∧ cap0 ≤ maxLen ∧ z0.length = cap0 ∧ (∀ i, i < z0.length → w.cell? (x.add i) = some (.int .i64 (z0.getD i 0))) ∧ ∀ n ∈ z0, (Lit.int .i64 n).wf = true) (y0 : len0 * 8 ≤ 140737488351232) (w1 : (Lit.int .i64 a1).wf = true) :
  Calls Try.prog 7 #[.slice a0 len0 cap0, .int .i64 a1] w fun e w' => e = .returned (.bool true) ∧ Below w.heap.size w w' := by
 obtain ⟨l0, rfl, hr0, hm0, hw0, hc0⟩ := ReadsInt.ofRowC w0
 obtain ⟨k, h⟩ := P l0 a1 hm0 y0 hw0 w1
 refine (carousellaw8_ConvGreatest.calls k _ _ l0 a1 true w (Kd.C_of_reads (d := (0 : Int)) (h1 := fun _ => rfl) hr0) hc0 h).mono ?_
 rintro e w' ⟨rfl, hd⟩
 exact ⟨rfl, hd⟩

end Go.Proofs.Ytcipfhlcgnomaaa.PConvGreatest
