/- The functions that the law ConvWhole reaches, as Lean functions, and that each call of the Go function does what its Lean function says, wherever that one answers. Written by a program of mine over the print of the kit; Lean checks it. -/
import Derived.Test.YtcipfhlcgnomaaaPConvWholex0
import Derived.Test.YtcipfhlcgnomaaaPConvWholex5
import Derived.Test.YtcipfhlcgnomaaaPConvWholex6
import Derived.Test.YtcipfhlcgnomaaaPConvWholex7
namespace Go.Proofs.Ytcipfhlcgnomaaa.PConvWhole
open Go.RowKit Go.Proofs.YtcipfhlcgnomaaaW.PrintWords Go.Proofs.YtcipfhlcgnomaaaW.PrintLast Go.Proofs.YtcipfhlcgnomaaaW.PrintMore
attribute [local go_sem] max2_int min2_int max_two min_two max_three min_three max_four min_four   -- for this text's walks alone
set_option linter.unusedVariables false
set_option linter.unusedSimpArgs false

/-! ### carousellaw8_ConvWhole: function 5 -/
def carousellaw8_ConvWhole.j0 : Nat → List Int → List Int → Bool → Option (Bool)
 | 0, _, _, _ => none
 | k + 1, x0, x1, x23 => if x23 = true then (some true) else ((carousellaw8_rows.f 1 x0).bind fun bt265 => ((carousellaw8_windows.f 1 1 x1).bind fun bt271 => ((conv_Row.f k bt265.1 bt265.2 bt271.1 bt271.2 1).bind fun bt277 => (if bt277.2.2 = 0 then ((matm_Dot.f k x0 x1).bind fun t285 => ((carousellaw8_rows.f 1 (([t285] : List Int))).bind fun bt289 => ((carouselref5_Alike.f k bt277.1 bt277.2.1 bt289.1 bt289.2).bind fun t295 => (some t295)))) else (none)))))
def carousellaw8_ConvWhole.f (k : Nat) (l0 : List Int) (l1 : List Int) : Option (Bool) := (carousellaw8_awake.f k).bind fun t264 => (if t264 = true then (if (l0.length : Int) < 1 then (carousellaw8_ConvWhole.j0 k l0 l1 true) else (if (l0.length : Int) > 100 then (carousellaw8_ConvWhole.j0 k l0 l1 true) else (carousellaw8_ConvWhole.j0 k l0 l1 ((l1.length : Int) != (l0.length : Int))))) else (none))
theorem carousellaw8_ConvWhole.mono_l : ∀ k, (∀ y0 y1 y2, LeO (carousellaw8_ConvWhole.j0 k y0 y1 y2) (carousellaw8_ConvWhole.j0 (k + 1) y0 y1 y2))
 | 0 => fun _ _ _ r h => by simp [carousellaw8_ConvWhole.j0] at h
 | k + 1 => by
  have ih0 := carousellaw8_ConvWhole.mono_l k
  ·intro y0 y1 y2
   unfold carousellaw8_ConvWhole.j0
   repeat' first
   | (with_reducible exact ih0 _ _ _)
   | (with_reducible exact carouselref5_Alike.mono _ _ _ _ _)
   | (with_reducible exact conv_Row.mono _ _ _ _ _ _)
   | (with_reducible exact matm_Dot.mono _ _ _)
   | (with_reducible exact LeO.refl _)
   | (with_reducible exact LeO.none _)
   | (with_reducible refine LeO.ite ?_ ?_)
   | (with_reducible refine LeO.bind ?_ (fun _ => ?_))
   | exact ih0 _ _ _
   | exact carouselref5_Alike.mono _ _ _ _ _
   | exact conv_Row.mono _ _ _ _ _ _
   | exact matm_Dot.mono _ _ _
   | exact LeO.none _
   | refine LeO.ite ?_ ?_
   | refine LeO.bind ?_ (fun _ => ?_)
theorem carousellaw8_ConvWhole.mono : ∀ a0 a1 k, LeO (carousellaw8_ConvWhole.f k a0 a1) (carousellaw8_ConvWhole.f (k + 1) a0 a1) := by
 intro a0 a1 k
 have ih0 := carousellaw8_ConvWhole.mono_l k
 unfold carousellaw8_ConvWhole.f
 repeat' first
   | (with_reducible exact ih0 _ _ _)
   | (with_reducible exact carousellaw8_awake.mono _)
   | (with_reducible exact LeO.refl _)
   | (with_reducible exact LeO.none _)
   | (with_reducible refine LeO.ite ?_ ?_)
   | (with_reducible refine LeO.bind ?_ (fun _ => ?_))
   | exact ih0 _ _ _
   | exact carousellaw8_awake.mono _
   | exact LeO.none _
   | refine LeO.ite ?_ ?_
   | refine LeO.bind ?_ (fun _ => ?_)
def carousellaw8_ConvWhole.T6 : Bool × List (List Nat × List Nat) := (true, [([], []), ([0], [0]), ([1], [1]), ([2], [2]), ([2], [2]), ([2], [2]), ([4, 5, 2, 2], [2, 4, 5]), ([6, 2], [2, 6]), ([7, 6, 2], [2, 7]), ([3, 8, 8, 2], [2, 3, 8]), ([2, 9], [2, 9]), ([10, 9, 0, 1, 2, 3, 4, 5, 6, 7, 8, 9, 10], [10])])
def carousellaw8_ConvWhole.B6 : List Nat := [0, 1, 3, 7, 7, 7, 55, 119, 247, 511, 1023, 2047]
theorem carousellaw8_ConvWhole.tab6 : rtab .any (opsOf Try.f5 6) = carousellaw8_ConvWhole.T6 := by kernel_rfl
theorem carousellaw8_ConvWhole.bits6 : waitsOk carousellaw8_ConvWhole.T6.2 carousellaw8_ConvWhole.B6 = true := by kernel_rfl
set_option maxHeartbeats 8000000 in
set_option maxRecDepth 100000 in
theorem carousellaw8_ConvWhole.calls (k : Nat) (A0 : Option Addr) (c0 : Nat) (l0 : List Int) (A1 : Option Addr) (c1 : Nat) (l1 : List Int) (r : Bool) (w : World) (hr0 : Kd.C (Kd.int .i64) w A0 l0.length l0) (hc0 : l0.length ≤ c0) (hr1 : Kd.C (Kd.int .i64) w A1 l1.length l1) (hc1 : l1.length ≤ c1) (h : carousellaw8_ConvWhole.f k l0 l1 = some r) :
  Calls Try.prog 5 #[.slice A0 l0.length c0, .slice A1 l1.length c1] w fun e w' => e = .returned (.bool r) ∧ Below w.heap.size w w' := by
 have hu25 := Try.underlying25
 have HR0 := Aside0.mk hr0
 have HC0 := Aside0.mk hc0
 clear hr0 hc0
 have HR1 := Aside0.mk hr1
 have HC1 := Aside0.mk hc1
 clear hr1 hc1
 have HB := Aside0.mk (Below.refl w.heap.size w)
 have H : ((carousellaw8_awake.f k).bind fun t264 => (if t264 = true then (if (l0.length : Int) < 1 then (carousellaw8_ConvWhole.j0 k l0 l1 true) else (if (l0.length : Int) > 100 then (carousellaw8_ConvWhole.j0 k l0 l1 true) else (carousellaw8_ConvWhole.j0 k l0 l1 ((l1.length : Int) != (l0.length : Int))))) else (none))) = some r := h
 clear h
 replace H := Option.bind_eq_some_iff.mp H
 obtain ⟨t264, A30, H⟩ := H
 (try dsimp only at H)
 have A3 := Aside0.mk A30
 clear A30
 by_cases c4 : t264 = true
 ·subst c4
  have H1 := H
  rw [if_pos rfl] at H1
  clear H
  have H := H1
  clear H1
  have HC5 := Aside0.mk H
  clear H
  go_enter Try.func5, Try.ntmps5
  go_upto_region 3 with (first | ((with_reducible refine gate_callee (f := 11) rfl ?_); refine zg_ (some 7) Try.func11 #[] (h := ?_); (with_reducible refine (carousellaw8_awake.calls k  true _ A3.out).mono ?_); rintro e w6 ⟨rfl, hb⟩; refine ⟨_, rfl, ?_⟩; replace HB := Aside0.mk (below_step (zw0_ HB) hb); (try clear hb)))
  (try simp only [Act.put, List.setIfInBounds_toArray, List.set_cons_zero, List.set_cons_succ])
  go_cut [23] (fun v23 wc => ∃ (kq : Nat) (x23_4 : Bool), v23 = .bool x23_4 ∧ Aside0 (carousellaw8_ConvWhole.j0 kq l0 l1 x23_4 = some r) ∧ Aside0 (kq ≤ k) ∧ Aside0 (Below w.heap.size w wc))
  case first =>
   have H := HC5.out
   clear HC5
   by_cases c7 : (l0.length : Int) < 1
   ·rw [if_pos c7] at H
    have c7b0 : decide ((l0.length : Int) < 1) = true := decide_eq_true c7
    have c7b1 : decide (l0.length < 1) = true := decide_eq_true (by omega)
    clear c7
    (first | rw [c7b0] | (simp only [i64_w, i32_w]; rw [c7b0]) | rw [c7b1] | skip)
    have H' := Aside0.mk H
    clear H
    go_wp2
    go_meet
    case rel => exact ⟨_, (true), (by first | rfl | (simp; done) | (simp [*]; done)), H', ⟨by first | omega | exact Nat.le_refl _⟩, ⟨zw0_ HB⟩⟩
   ·rw [if_neg c7] at H
    have c7b0 : decide ((l0.length : Int) < 1) = false := decide_eq_false c7
    have c7b1 : decide (l0.length < 1) = false := decide_eq_false (by omega)
    clear c7
    (first | rw [c7b0] | (simp only [i64_w, i32_w]; rw [c7b0]) | rw [c7b1] | skip)
    by_cases c8 : (l0.length : Int) > 100
    ·rw [if_pos c8] at H
     have c8b0 : decide (100 < (l0.length : Int)) = true := decide_eq_true c8
     have c8b1 : decide (100 < l0.length) = true := decide_eq_true (by omega)
     clear c8
     have H' := Aside0.mk H
     clear H
     go_wp2
     go_meet
     case rel => exact ⟨_, (true), (by first | rfl | (simp; done) | (simp [*]; done)), H', ⟨by first | omega | exact Nat.le_refl _⟩, ⟨zw0_ HB⟩⟩
    ·rw [if_neg c8] at H
     have c8b0 : decide (100 < (l0.length : Int)) = false := decide_eq_false c8
     have c8b1 : decide (100 < l0.length) = false := decide_eq_false (by omega)
     clear c8
     have H' := Aside0.mk H
     clear H
     go_wp2
     go_meet
     case rel => exact ⟨_, (((l1.length : Int) != (l0.length : Int))), (by first | rfl | (simp; done) | (simp [*]; done)), H', ⟨by first | omega | exact Nat.le_refl _⟩, ⟨zw0_ HB⟩⟩
  case rest =>
   clear HC5
   try clear c1
   try clear p2
   try clear c4
   try clear c5
   try clear c7
   try clear c7b0
   try clear c7b1
   try clear c8
   try clear c8b0
   try clear c8b1
   obtain ⟨kq, x23_4, rfl, HA, HJ4, HB⟩ := hcut
   cases kq with
   | zero => exact absurd HA.out (by simp [carousellaw8_ConvWhole.j0])
   | succ kj4 =>
    have H := HA.out
    clear HA
    simp only [carousellaw8_ConvWhole.j0] at H
    by_cases c9 : x23_4 = true
    ·subst c9
     have H1 : (some true) = some r := by rw [if_pos rfl] at H; exact H
     clear H
     have H := H1
     clear H1
     obtain rfl := Option.some.inj H
     go_wp2
     go_ret
     exact ⟨by first | rfl | (simp [errW_none, errW_some] <;> rfl) | (simp [*, errW_none, errW_some] <;> rfl), zw0_ HB⟩
    ·replace c9 := Bool.eq_false_iff.mpr c9
     subst c9
     have H1 := H
     rw [if_neg (show ¬ (false = true) by decide)] at H1
     clear H
     have H := H1
     clear H1
     replace H := Option.bind_eq_some_iff.mp H
     obtain ⟨⟨t265, t268⟩, A100, H⟩ := H
     (try dsimp only at H)
     have A10 := Aside0.mk A100
     clear A100
     replace H := Option.bind_eq_some_iff.mp H
     obtain ⟨⟨t271, t274⟩, A110, H⟩ := H
     (try dsimp only at H)
     have A11 := Aside0.mk A110
     clear A110
     replace H := Option.bind_eq_some_iff.mp H
     obtain ⟨⟨t277, t280, t283⟩, A120, H⟩ := H
     (try dsimp only at H)
     have A12 := Aside0.mk A120
     clear A120
     by_cases c13 : t283 = 0
     ·rw [if_pos c13] at H
      have c13b0 : (t283 == 0) = true := beq_iff_eq.mpr c13
      have c13b1 : (t283 != 0) = false := bne_eq_false_iff_eq.mpr c13
      clear c13
      replace H := Option.bind_eq_some_iff.mp H
      obtain ⟨t285, A140, H⟩ := H
      (try dsimp only at H)
      have A14 := Aside0.mk A140
      clear A140
      obtain ⟨y286, hy286⟩ : ∃ y_ : List Int, y_ = (([t285] : List Int)) := ⟨_, rfl⟩
      replace H : ((carousellaw8_rows.f 1 y286).bind fun bt289 => ((carouselref5_Alike.f kj4 t277 t280 bt289.1 bt289.2).bind fun t295 => (some t295))) = some r := by first | (rw [hy286]; with_reducible exact H) | (have H2_ := (Option.bind_some _ _).symm.trans H; rw [hy286]; with_reducible exact H2_) | (have H2_ := (Option.bind_some _ _).symm.trans H; with_reducible exact H2_) | with_reducible exact H | (rw [hy286]; exact H) | exact H
      have Ny286 := Aside0.mk hy286
      clear hy286
      replace H := Option.bind_eq_some_iff.mp H
      obtain ⟨⟨t289, t292⟩, A150, H⟩ := H
      replace H : ((carouselref5_Alike.f kj4 t277 t280 t289 t292).bind fun t295 => (some t295)) = some r := H
      have A15 := Aside0.mk A150
      clear A150
      replace H := Option.bind_eq_some_iff.mp H
      obtain ⟨t295, A160, H⟩ := H
      replace H : (some t295) = some r := H
      have A16 := Aside0.mk A160
      clear A160
      obtain rfl := Option.some.inj H
      try go_wp2_with (first | ((with_reducible refine gate_callee (f := 17) rfl ?_); refine zg_ (some 26) Try.func17 #[.int .i64 1, .slice A0 l0.length c0] (h := ?_); (with_reducible refine (carousellaw8_rows.calls 1 (fun k_ => k_ < w.heap.size) _ _ l0 t265 t268 _ ?side1 A10.out).mono ?_); (case side1 => exact Kd.V_mk HC0.out (Kd.F_below (Kd.C_F (Kd.heap_int .i64) HR0.out) (zw0_ HB))); rintro e w17 ⟨v266, v269, rfl, ho0, ho1, hb⟩; refine ⟨_, rfl, ?_⟩; have HO267 := Aside0.mk (Kd.R_lower (Kd.R_mono (ok' := fun k_ => True) ho0 (fun _ hk_ => trivial)) (below_size (zw0_ HB))); have HO270 := Aside0.mk (Kd.V_lower (Kd.V_mono (ok' := fun k_ => some k_ ≠ (v266 : Value).ownBlock) ho1 (fun k_ hk_ => hk_.2)) (below_size (zw0_ HB))); replace HB := Aside0.mk (below_step (zw0_ HB) hb); (try clear hb); (try clear ho0); (try clear ho1)) | ((with_reducible refine gate_callee (f := 16) rfl ?_); refine zg_ (some 28) Try.func16 #[.int .i64 1, .int .i64 1, .slice A1 l1.length c1] (h := ?_); (with_reducible refine (carousellaw8_windows.calls 1 1 (fun k_ => k_ < w.heap.size) _ _ l1 t271 t274 _ ?side1 A11.out).mono ?_); (case side1 => exact Kd.V_mk HC1.out (Kd.F_below (Kd.C_F (Kd.heap_int .i64) HR1.out) (zw0_ HB))); rintro e w18 ⟨v272, v275, rfl, ho0, ho1, hb⟩; refine ⟨_, rfl, ?_⟩; replace HO270 := Aside0.mk (Kd.V_elder' (by (with_reducible repeat (first | apply Kd.V_alloc | apply Kd.V_drewN | apply Kd.V_drew)); exact HO270.out) (Kd.R_base ho0) hb); have HO273 := Aside0.mk (Kd.R_lower (Kd.R_new' (Kd.R_mono (ok' := fun k_ => True) ho0 (fun _ hk_ => trivial)) (Kd.R_lt (zr_ HO267.out))) (below_size (zw0_ HB))); have HO276 := Aside0.mk (Kd.V_lower (Kd.V_mono (ok' := fun k_ => some k_ ≠ (v272 : Value).ownBlock ∧ some k_ ≠ (v266 : Value).ownBlock) ho1 (fun k_ hk_ => ⟨hk_.2, Or.elim hk_.1 (fun hs_ => fun e_ => Nat.not_le.2 hs_ (Kd.R_base HO267.out k_ e_.symm)) (fun hn_ => (Kd.fresh' (Kd.R_lt (zr_ HO267.out)) k_ hn_))⟩)) (below_size (zw0_ HB))); replace HO267 := Aside0.mk (Kd.R_elder' (zr_ HO267.out) (Kd.R_base ho0) hb); replace HB := Aside0.mk (below_step (zw0_ HB) hb); (try clear hb); (try clear ho0); (try clear ho1); obtain ⟨Ao19, co19, eo19⟩ := Kd.R_slice HO267.out; subst eo19; obtain ⟨Ao20, co20, eo20⟩ := Kd.V_slice HO270.out; subst eo20; obtain ⟨Ao21, co21, eo21⟩ := Kd.R_slice HO273.out; subst eo21; obtain ⟨Ao22, co22, eo22⟩ := Kd.V_slice HO276.out; subst eo22) | ((with_reducible refine gate_callee (f := 13) rfl ?_); refine zg_ (some 29) Try.func13 #[.agg #[.slice Ao19 t265.length co19, .slice Ao20 t268.length co20], .agg #[.slice Ao21 t271.length co21, .slice Ao22 t274.length co22], .int .i64 1] (h := ?_); (with_reducible refine (conv_Row.calls kj4 _ _ t265 _ _ t268 _ _ t271 _ _ t274 1 t277 t280 t283 _ ?side1 ?side2 ?side3 ?side4 ?side5 ?side6 ?side7 ?side8 A12.out).mono ?_); (case side1 => exact zk_ ((Kd.R_reads' HO267.out).2.2)); (case side2 => exact (Kd.R_reads' HO267.out).2.1); (case side3 => repeat (first | exact (Kd.V_reads' HO270.out).2.2 | (with_reducible refine Kd.C_alloc ?_ _) | (with_reducible refine Kd.C_drewN ?_ _) | (with_reducible refine Kd.C_drew ?_))); (case side4 => exact (Kd.V_reads' HO270.out).2.1); (case side5 => exact zk_ ((Kd.R_reads' HO273.out).2.2)); (case side6 => exact (Kd.R_reads' HO273.out).2.1); (case side7 => repeat (first | exact (Kd.V_reads' HO276.out).2.2 | (with_reducible refine Kd.C_alloc ?_ _) | (with_reducible refine Kd.C_drewN ?_ _) | (with_reducible refine Kd.C_drew ?_))); (case side8 => exact (Kd.V_reads' HO276.out).2.1); rintro e w23 ⟨v278, v281, rfl, ho0, ho1, hb⟩; refine ⟨_, rfl, ?_⟩; replace HO270 := Aside0.mk (Kd.V_mono (Kd.V_told (Kd.V_told (Kd.V_old (by (with_reducible repeat (first | apply Kd.V_alloc | apply Kd.V_drewN | apply Kd.V_drew)); exact HO270.out) hb) (Kd.R_base ho0)) (Kd.R_base ho1)) (fun _ h_ => h_.1)); replace HO276 := Aside0.mk (Kd.V_mono (Kd.V_told (Kd.V_told (Kd.V_old (by (with_reducible repeat (first | apply Kd.V_alloc | apply Kd.V_drewN | apply Kd.V_drew)); exact HO276.out) hb) (Kd.R_base ho0)) (Kd.R_base ho1)) (fun _ h_ => h_.1)); have HO279 := Aside0.mk (Kd.R_lower (Kd.R_new' (Kd.R_new' ho0 (Kd.R_lt (zr_ HO267.out))) (Kd.R_lt (zr_ HO273.out))) (below_size (zw0_ HB))); replace HO267 := Aside0.mk (Kd.R_elder' (zr_ HO267.out) (Kd.R_base ho0) hb); replace HO273 := Aside0.mk (Kd.R_elder' (zr_ HO273.out) (Kd.R_base ho0) hb); have HO282 := Aside0.mk (Kd.R_lower ho1 (below_size (zw0_ HB))); replace HB := Aside0.mk (below_step (zw0_ HB) hb); (try clear hb); (try clear ho0); (try clear ho1)) | ((with_reducible refine gate_dst (N := 5) rfl ?_); (try (refine gate_guard (by rfl) ?_; dsimp only)); refine box_event ?hg (N := 5) ?hd (cs := #[.slice none 0 0, .slice none 0 0]) (t := 25) ?hr ?_; (case hd => rfl); (case hg => rfl); (case hr => first | (go_simp; done) | (go_simp; rfl)); intro gb284 hg w24 hbox hb; replace HO267 := Aside0.mk (Kd.R_below (zr_ HO267.out) hb); replace HO270 := Aside0.mk (Kd.V_below (Kd.V_elderB (by (with_reducible repeat (first | apply Kd.V_alloc | apply Kd.V_drewN | apply Kd.V_drew)); exact HO270.out) gb284 (Nat.le_of_eq hg.symm)) hb); replace HO273 := Aside0.mk (Kd.R_below (zr_ HO273.out) hb); replace HO276 := Aside0.mk (Kd.V_below (Kd.V_elderB (by (with_reducible repeat (first | apply Kd.V_alloc | apply Kd.V_drewN | apply Kd.V_drew)); exact HO276.out) gb284 (Nat.le_of_eq hg.symm)) hb); replace HO279 := Aside0.mk (Kd.R_below (zr_ HO279.out) hb); replace HO282 := Aside0.mk (Kd.R_below (zr_ HO282.out) hb); have BK284 := Aside0.mk (hbox); have GW284 := Aside0.mk (zs_ hg (zw0_ HB)); have GE284 := Aside0.mk (zs_ hg (zw0_ HB)); replace HB := Aside0.mk (below_step (zw0_ HB) hb); clear hb hbox hg; obtain ⟨Ao25, co25, eo25⟩ := Kd.R_slice HO279.out; subst eo25; have hcz26_0 := zx_ (v := .slice none 0 0) BK284 0; have hcz26_1 := zx_ (v := .slice none 0 0) BK284 1; have hfz26_0 := blk_frozen BK284.out 0; have hfz26_1 := blk_frozen BK284.out 1; obtain ⟨Ao27, co27, eo27⟩ := Kd.R_slice HO282.out; subst eo27))
      have n0_ : Aside0 (Kd.R (Kd.int .i64) 3 ((w24.setCell ⟨gb284, 0, none⟩ (.slice Ao25 t277.length co25)).setCell ⟨gb284, 1, none⟩ (.slice Ao27 t280.length co27)) w.heap.size (fun k_ => some k_ ≠ (.slice Ao21 t271.length co21 : Value).ownBlock ∧ some k_ ≠ (.slice Ao25 t277.length co25 : Value).ownBlock) (.slice Ao19 t265.length co19) t265) := ⟨zr_ (Kd.R_mono (Kd.R_far (p := ⟨gb284, 1, none⟩) (Kd.R_far (p := ⟨gb284, 0, none⟩) (Kd.R_types HO267.out BK284.out (by decide)) (fun _ hk => hk.2) (.slice Ao25 t277.length co25)) (fun _ hk => hk.2) (.slice Ao27 t280.length co27)) (fun _ hk => ⟨hk.1.1.2, hk.1.2⟩))⟩
      have n1_ : Aside0 (Kd.V (Kd.int .i64) 33 ((w24.setCell ⟨gb284, 0, none⟩ (.slice Ao25 t277.length co25)).setCell ⟨gb284, 1, none⟩ (.slice Ao27 t280.length co27)) w.heap.size (fun k_ => some k_ ≠ (.slice Ao19 t265.length co19 : Value).ownBlock ∧ some k_ ≠ (.slice Ao21 t271.length co21 : Value).ownBlock ∧ some k_ ≠ (.slice Ao25 t277.length co25 : Value).ownBlock ∧ some k_ ≠ (.slice Ao27 t280.length co27 : Value).ownBlock ∧ k_ ≠ gb284) (.slice Ao20 t268.length co20) t268) := ⟨by (with_reducible repeat (first | apply Kd.V_alloc | apply Kd.V_drewN | apply Kd.V_drew)); exact Kd.V_mono (Kd.V_far (p := ⟨gb284, 1, none⟩) (Kd.V_far (p := ⟨gb284, 0, none⟩) (Kd.V_mono HO270.out (fun k_ hk => (⟨hk, hk.2⟩ : _ ∧ k_ ≠ gb284))) (fun _ hk => hk.2) (.slice Ao25 t277.length co25)) (fun _ hk => hk.2) (.slice Ao27 t280.length co27)) (fun _ hk => ⟨hk.1.1.1.1.1, ⟨hk.1.1.1.1.2, ⟨hk.1.1.1.2, ⟨hk.1.1.2, hk.1.2⟩⟩⟩⟩)⟩
      have n2_ : Aside0 (Kd.R (Kd.int .i64) 3 ((w24.setCell ⟨gb284, 0, none⟩ (.slice Ao25 t277.length co25)).setCell ⟨gb284, 1, none⟩ (.slice Ao27 t280.length co27)) w.heap.size (fun k_ => some k_ ≠ (.slice Ao19 t265.length co19 : Value).ownBlock ∧ some k_ ≠ (.slice Ao25 t277.length co25 : Value).ownBlock) (.slice Ao21 t271.length co21) t271) := ⟨zr_ (Kd.R_mono (Kd.R_far (p := ⟨gb284, 1, none⟩) (Kd.R_far (p := ⟨gb284, 0, none⟩) (Kd.R_types HO273.out BK284.out (by decide)) (fun _ hk => hk.2) (.slice Ao25 t277.length co25)) (fun _ hk => hk.2) (.slice Ao27 t280.length co27)) (fun _ hk => ⟨hk.1.1.2, hk.1.2⟩))⟩
      have n3_ : Aside0 (Kd.V (Kd.int .i64) 33 ((w24.setCell ⟨gb284, 0, none⟩ (.slice Ao25 t277.length co25)).setCell ⟨gb284, 1, none⟩ (.slice Ao27 t280.length co27)) w.heap.size (fun k_ => some k_ ≠ (.slice Ao19 t265.length co19 : Value).ownBlock ∧ some k_ ≠ (.slice Ao21 t271.length co21 : Value).ownBlock ∧ some k_ ≠ (.slice Ao25 t277.length co25 : Value).ownBlock ∧ some k_ ≠ (.slice Ao27 t280.length co27 : Value).ownBlock ∧ k_ ≠ gb284) (.slice Ao22 t274.length co22) t274) := ⟨by (with_reducible repeat (first | apply Kd.V_alloc | apply Kd.V_drewN | apply Kd.V_drew)); exact Kd.V_mono (Kd.V_far (p := ⟨gb284, 1, none⟩) (Kd.V_far (p := ⟨gb284, 0, none⟩) (Kd.V_mono HO276.out (fun k_ hk => (⟨hk, hk.2⟩ : _ ∧ k_ ≠ gb284))) (fun _ hk => hk.2) (.slice Ao25 t277.length co25)) (fun _ hk => hk.2) (.slice Ao27 t280.length co27)) (fun _ hk => ⟨hk.1.1.1.1.2, ⟨hk.1.1.1.1.1, ⟨hk.1.1.1.2, ⟨hk.1.1.2, hk.1.2⟩⟩⟩⟩)⟩
      have n4_ : Aside0 (Kd.R (Kd.int .i64) 3 ((w24.setCell ⟨gb284, 0, none⟩ (.slice Ao25 t277.length co25)).setCell ⟨gb284, 1, none⟩ (.slice Ao27 t280.length co27)) w.heap.size (fun k_ => some k_ ≠ (.slice Ao19 t265.length co19 : Value).ownBlock ∧ some k_ ≠ (.slice Ao21 t271.length co21 : Value).ownBlock) (.slice Ao25 t277.length co25) t277) := ⟨zr_ (Kd.R_mono (Kd.R_far (p := ⟨gb284, 1, none⟩) (Kd.R_far (p := ⟨gb284, 0, none⟩) (Kd.R_types HO279.out BK284.out (by decide)) (fun _ hk => hk.2) (.slice Ao25 t277.length co25)) (fun _ hk => hk.2) (.slice Ao27 t280.length co27)) (fun _ hk => ⟨hk.1.1.2, hk.1.2⟩))⟩
      have n5_ : Aside0 (Kd.R (Kd.int .i64) 33 ((w24.setCell ⟨gb284, 0, none⟩ (.slice Ao25 t277.length co25)).setCell ⟨gb284, 1, none⟩ (.slice Ao27 t280.length co27)) w.heap.size (fun _ => True) (.slice Ao27 t280.length co27) t280) := ⟨zr_ (Kd.R_mono (Kd.R_far (p := ⟨gb284, 1, none⟩) (Kd.R_far (p := ⟨gb284, 0, none⟩) (Kd.R_types HO282.out BK284.out (by decide)) (fun _ hk => hk.2) (.slice Ao25 t277.length co25)) (fun _ hk => hk.2) (.slice Ao27 t280.length co27)) (fun _ hk => trivial))⟩
      have n6_ : Aside0 (((w24.setCell ⟨gb284, 0, none⟩ (.slice Ao25 t277.length co25)).setCell ⟨gb284, 1, none⟩ (.slice Ao27 t280.length co27)).heap[gb284]? = some (.cells #[.slice Ao25 t277.length co25, .slice Ao27 t280.length co27] 25 (0, 0))) := ⟨by (with_reducible repeat (first | refine blk_drewN ?_ _ | refine blk_drew ?_ | refine blk_alloc ?_ _)); refine blk_put (cs := #[.slice Ao25 t277.length co25, .slice none 0 0]) ?_ 1 _ rfl; (with_reducible repeat (first | refine blk_drewN ?_ _ | refine blk_drew ?_ | refine blk_alloc ?_ _)); refine blk_put (cs := #[.slice none 0 0, .slice none 0 0]) ?_ 0 _ rfl; (with_reducible repeat (first | refine blk_drewN ?_ _ | refine blk_drew ?_ | refine blk_alloc ?_ _)); exact BK284.out⟩
      have n7_ : Aside0 (Below w.heap.size w ((w24.setCell ⟨gb284, 0, none⟩ (.slice Ao25 t277.length co25)).setCell ⟨gb284, 1, none⟩ (.slice Ao27 t280.length co27))) := ⟨zw1_ HB GE284⟩
      (try clear HO267)
      (try clear HO270)
      (try clear HO273)
      (try clear HO276)
      (try clear HO279)
      (try clear HO282)
      (try clear BK284)
      (try clear HB)
      generalize ((w24.setCell ⟨gb284, 0, none⟩ (.slice Ao25 t277.length co25)).setCell ⟨gb284, 1, none⟩ (.slice Ao27 t280.length co27)) = w28 at n0_ n1_ n2_ n3_ n4_ n5_ n6_ n7_ ⊢
      have HO267 := n0_
      have HO270 := n1_
      have HO273 := n2_
      have HO276 := n3_
      have HO279 := n4_
      have HO282 := n5_
      have BK284 := n6_
      have HB := n7_
      clear n0_ n1_ n2_ n3_ n4_ n5_ n6_ n7_
      replace HO267 := Aside0.mk (Kd.R_drew HO267.out)
      replace HO270 := Aside0.mk (Kd.V_drew HO270.out)
      replace HO273 := Aside0.mk (Kd.R_drew HO273.out)
      replace HO276 := Aside0.mk (Kd.V_drew HO276.out)
      replace HO279 := Aside0.mk (Kd.R_drew HO279.out)
      replace HO282 := Aside0.mk (Kd.R_drew HO282.out)
      replace BK284 := Aside0.mk (blk_drew BK284.out)
      replace HB := Aside0.mk (below_drew1 HB.out)
      refine start_ (n := 12) (S := fun w' => w'.cell? ⟨gb284, 0, none⟩ = some (.slice Ao25 t277.length co25) ∧ w'.cell? ⟨gb284, 1, none⟩ = some (.slice Ao27 t280.length co27)) (ds := []) #[false, false, false, false, false, false, false, false, false, false, false, false] (by kernel_rfl) rfl rfl ⟨(blk_cell BK284.out 0).trans rfl, (blk_cell BK284.out 1).trans rfl⟩ (fun hHeld => ?_); refine with_tabW carousellaw8_ConvWhole.tab6 carousellaw8_ConvWhole.bits6 (fun HT_ HW_ => ?_)
      generalize w28.drew = w29 at HO267 HO270 HO273 HO276 HO279 HO282 BK284 HB hHeld ⊢
      refine zp_ 0 (some 32) (h := ?_)
      refine zp_ 1 (some 33) (h := ?_)
      refine zp_ 2 (some 34) (h := ?_)
      refine zp_ 4 (some 36) (h := ?_)
      refine zp_ 5 (some 37) (h := ?_)
      refine zt_ 3 (some 35) (hr := by rintro w' ⟨s0, s1⟩; go_simp; with_reducible rfl) (h := ?_)
      refine one_ (i := 6) (N := some 38) #[true, true, true, true, true, true, true, false, false, false, false, false] rfl rfl (one_of HT_.out (by kernel_rfl)) (by decide) (fun K hK => ?_)
      refine goes_ Try.func18 (by kernel_rfl) rfl #[.slice A0 l0.length c0, .slice A1 l1.length c1] (by rfl) rfl rfl (by (try simp only [List.map_toArray, List.map_cons, List.map_nil]); first | done | rfl | (simp only [List.length_drop, List.length_take]; rfl)) ?_
      with_reducible refine (matm_Dot.calls kj4 _ _ l0 _ _ l1 t285 _ ?side1 ?side2 ?side3 ?side4 A14.out).mono ?_
      (case side1 => exact zk_ (Kd.C_below HR0.out HB.out))
      (case side2 => exact HC0.out)
      (case side3 => exact zk_ (Kd.C_below HR1.out HB.out))
      (case side4 => exact HC1.out)
      rintro e w30 ⟨rfl, hb⟩
      refine ⟨_, rfl, ?_⟩
      replace HO267 := Aside0.mk (Kd.R_below (zr_ HO267.out) hb)
      replace HO270 := Aside0.mk (Kd.V_below (by (with_reducible repeat (first | apply Kd.V_alloc | apply Kd.V_drewN | apply Kd.V_drew)); exact HO270.out) hb)
      replace HO273 := Aside0.mk (Kd.R_below (zr_ HO273.out) hb)
      replace HO276 := Aside0.mk (Kd.V_below (by (with_reducible repeat (first | apply Kd.V_alloc | apply Kd.V_drewN | apply Kd.V_drew)); exact HO276.out) hb)
      replace HO279 := Aside0.mk (Kd.R_below (zr_ HO279.out) hb)
      replace HO282 := Aside0.mk (Kd.R_below (zr_ HO282.out) hb)
      replace BK284 := Aside0.mk (zl_ BK284 hb)
      replace HB := Aside0.mk (below_step (zw1_ HB GE284) hb)
      (try clear hb)
      (try clear hb2)
      (try clear hk)
      (try clear hi)
      refine hK.out _ _ ⟨(blk_cell BK284.out 0).trans rfl, (blk_cell BK284.out 1).trans rfl⟩ (fun hHeld => ?_)
      clear hK K
      refine zq_ (some 38) (h := ?_)
      refine one_ (i := 7) (N := some 39) #[true, true, true, true, true, true, true, true, false, false, false, false] rfl rfl (one_of HT_.out (by kernel_rfl)) (by decide) (fun K hK => ?_)
      refine Kd.R_lit_step (Kd.int .i64) _ 33 ?hg (N := 39) ?hd (xs := ([t285] : List Int)) (inner := [.int .i64 t285]) (ok := fun _ => True) (okp := fun _ => True) ?hr ?hp (fun _ hk => hk) trivial (Below.refl _ _) (Nat.le_refl _) (by simp) ?_; (case hd => rfl); (case hg => rfl); (case hr => first | (go_simp; done) | (go_simp; rfl)); (case hp => exact (Reps.one (show Kd.M (Kd.int .i64) _ _ _ t285 [.int .i64 t285] from rfl) (Reps.none _ _)))
      intro v287 w31 ho32 hb hg_ hnew_
      clear hg_ hnew_
      (first | rw [← Ny286.out] at ho32 | (simp only [Int.reduceToNat] at ho32; rw [← Ny286.out] at ho32))
      replace HO267 := Aside0.mk (Kd.R_below (zr_ HO267.out) hb)
      replace HO270 := Aside0.mk (Kd.V_elder' (by (with_reducible repeat (first | apply Kd.V_alloc | apply Kd.V_drewN | apply Kd.V_drew)); exact HO270.out) (Kd.R_base ho32) hb)
      replace HO273 := Aside0.mk (Kd.R_below (zr_ HO273.out) hb)
      replace HO276 := Aside0.mk (Kd.V_elder' (by (with_reducible repeat (first | apply Kd.V_alloc | apply Kd.V_drewN | apply Kd.V_drew)); exact HO276.out) (Kd.R_base ho32) hb)
      replace HO279 := Aside0.mk (Kd.R_below (zr_ HO279.out) hb)
      have HO288 := Aside0.mk (Kd.R_lower (Kd.R_new' ho32 (Kd.R_lt (zr_ HO282.out))) (below_size (zw1_ HB GE284)))
      replace HO282 := Aside0.mk (Kd.R_elder' (zr_ HO282.out) (Kd.R_base ho32) hb)
      replace BK284 := Aside0.mk (zl_ BK284 hb)
      replace HB := Aside0.mk (below_step (zw1_ HB GE284) hb)
      clear hb ho32
      obtain ⟨Ao33, co33, eo33⟩ := Kd.R_slice HO288.out
      (first | subst eo33 | (injection eo33 with f1_ f2_ f3_; have f4_ := f1_.symm; have f5_ := f3_.symm; clear f1_ f2_ f3_; subst f4_; subst f5_))
      refine hK.out _ _ ⟨(blk_cell BK284.out 0).trans rfl, (blk_cell BK284.out 1).trans rfl⟩ (fun hHeld => ?_)
      clear hK K
      refine zq_ (some 39) (h := ?_)
      refine one_ (i := 8) (N := some 40) #[true, true, true, true, true, true, true, true, true, false, false, false] rfl rfl (one_of HT_.out (by kernel_rfl)) (by decide) (fun K hK => ?_)
      refine goes_ Try.func17 (by kernel_rfl) rfl #[.int .i64 1, .slice Ao33 y286.length co33] (by rfl) rfl rfl (by (try simp only [List.map_toArray, List.map_cons, List.map_nil]); first | done | rfl | (simp only [List.length_drop, List.length_take]; rfl)) ?_
      with_reducible refine (carousellaw8_rows.calls 1 (fun k_ => some k_ = (.slice Ao33 y286.length co33 : Value).ownBlock) _ _ y286 t289 t292 _ ?side1 A15.out).mono ?_
      (case side1 => exact Kd.R_V (Kd.R_tight rfl (Kd.R_types (Kd.R_apart' (Kd.R_apart' (Kd.R_apart' (HO288.out) (Kd.R_typed HO267.out) (by decide)) (Kd.R_typed HO273.out) (by decide)) (Kd.R_typed HO279.out) (by decide)) BK284.out (by decide))))
      rintro e w34 ⟨v290, v293, rfl, ho0, ho1, hb⟩
      refine ⟨_, rfl, ?_⟩
      replace HO270 := Aside0.mk (Kd.V_elder' (by (with_reducible repeat (first | apply Kd.V_alloc | apply Kd.V_drewN | apply Kd.V_drew)); exact HO270.out) (Kd.R_base ho0) hb)
      replace HO276 := Aside0.mk (Kd.V_elder' (by (with_reducible repeat (first | apply Kd.V_alloc | apply Kd.V_drewN | apply Kd.V_drew)); exact HO276.out) (Kd.R_base ho0) hb)
      have HO291 := Aside0.mk (Kd.R_lower (Kd.R_new' (Kd.R_new' (Kd.R_new' (Kd.R_mono (ok' := fun k_ => True) ho0 (fun _ hk_ => trivial)) (Kd.R_lt (zr_ HO267.out))) (Kd.R_lt (zr_ HO273.out))) (Kd.R_lt (zr_ HO279.out))) (below_size (zw1_ HB GE284)))
      have HO294 := Aside0.mk (Kd.V_lower (Kd.V_mono (ok' := fun k_ => some k_ ≠ (v290 : Value).ownBlock ∧ some k_ ≠ (.slice Ao19 t265.length co19 : Value).ownBlock ∧ some k_ ≠ (.slice Ao21 t271.length co21 : Value).ownBlock ∧ some k_ ≠ (.slice Ao25 t277.length co25 : Value).ownBlock ∧ some k_ ≠ (.slice Ao27 t280.length co27 : Value).ownBlock ∧ k_ ≠ gb284) ho1 (fun k_ hk_ => ⟨hk_.2, Or.elim hk_.1 (fun hs_ => ((Kd.R_types (Kd.R_apart' (Kd.R_apart' (Kd.R_apart' (HO288.out) (Kd.R_typed HO267.out) (by decide)) (Kd.R_typed HO273.out) (by decide)) (Kd.R_typed HO279.out) (by decide)) BK284.out (by decide)).1 k_ hs_.symm).1.1.1.2) (fun hn_ => (Kd.fresh' (Kd.R_lt (zr_ HO267.out)) k_ hn_)), Or.elim hk_.1 (fun hs_ => ((Kd.R_types (Kd.R_apart' (Kd.R_apart' (Kd.R_apart' (HO288.out) (Kd.R_typed HO267.out) (by decide)) (Kd.R_typed HO273.out) (by decide)) (Kd.R_typed HO279.out) (by decide)) BK284.out (by decide)).1 k_ hs_.symm).1.1.2) (fun hn_ => (Kd.fresh' (Kd.R_lt (zr_ HO273.out)) k_ hn_)), Or.elim hk_.1 (fun hs_ => ((Kd.R_types (Kd.R_apart' (Kd.R_apart' (Kd.R_apart' (HO288.out) (Kd.R_typed HO267.out) (by decide)) (Kd.R_typed HO273.out) (by decide)) (Kd.R_typed HO279.out) (by decide)) BK284.out (by decide)).1 k_ hs_.symm).1.2) (fun hn_ => (Kd.fresh' (Kd.R_lt (zr_ HO279.out)) k_ hn_)), Or.elim hk_.1 (fun hs_ => ((Kd.R_types (Kd.R_apart' (Kd.R_apart' (Kd.R_apart' (HO288.out) (Kd.R_typed HO267.out) (by decide)) (Kd.R_typed HO273.out) (by decide)) (Kd.R_typed HO279.out) (by decide)) BK284.out (by decide)).1 k_ hs_.symm).1.1.1.1.2) (fun hn_ => (Kd.fresh' (Kd.R_lt (zr_ HO282.out)) k_ hn_)), Or.elim hk_.1 (fun hs_ => ((Kd.R_types (Kd.R_apart' (Kd.R_apart' (Kd.R_apart' (HO288.out) (Kd.R_typed HO267.out) (by decide)) (Kd.R_typed HO273.out) (by decide)) (Kd.R_typed HO279.out) (by decide)) BK284.out (by decide)).1 k_ hs_.symm).2) (fun hn_ => (Kd.freshB (g := gb284) (o := .cells #[.slice Ao25 t277.length co25, .slice Ao27 t280.length co27] 25 (0, 0)) (zb_ BK284) k_ hn_))⟩)) (below_size (zw1_ HB GE284)))
      replace HO267 := Aside0.mk (Kd.R_elder' (zr_ HO267.out) (Kd.R_base ho0) hb)
      replace HO273 := Aside0.mk (Kd.R_elder' (zr_ HO273.out) (Kd.R_base ho0) hb)
      replace HO279 := Aside0.mk (Kd.R_elder' (zr_ HO279.out) (Kd.R_base ho0) hb)
      replace HO282 := Aside0.mk (Kd.R_below (zr_ HO282.out) hb)
      replace HO288 := Aside0.mk (Kd.R_below (zr_ HO288.out) hb)
      replace BK284 := Aside0.mk (zl_ BK284 hb)
      replace HB := Aside0.mk (below_step (zw1_ HB GE284) hb)
      (try clear hb)
      (try clear hb2)
      (try clear hk)
      (try clear hi)
      (try clear ho0)
      (try clear ho1)
      obtain ⟨Ao35, co35, eo35⟩ := Kd.R_slice HO291.out
      (first | subst eo35 | (injection eo35 with f1_ f2_ f3_; have f4_ := f1_.symm; have f5_ := f3_.symm; clear f1_ f2_ f3_; subst f4_; subst f5_))
      obtain ⟨Ao36, co36, eo36⟩ := Kd.V_slice HO294.out
      (first | subst eo36 | (injection eo36 with f1_ f2_ f3_; have f4_ := f1_.symm; have f5_ := f3_.symm; clear f1_ f2_ f3_; subst f4_; subst f5_))
      refine hK.out _ _ ⟨(blk_cell BK284.out 0).trans rfl, (blk_cell BK284.out 1).trans rfl⟩ (fun hHeld => ?_)
      clear hK K
      refine zq_ (some 40) (h := ?_)
      refine one_ (i := 9) (N := some 41) #[true, true, true, true, true, true, true, true, true, true, false, false] rfl rfl (one_of HT_.out (by kernel_rfl)) (by decide) (fun K hK => ?_)
      refine goes_ Try.func15 (by kernel_rfl) rfl #[.agg #[.slice Ao25 t277.length co25, .slice Ao27 t280.length co27], .agg #[.slice Ao35 t289.length co35, .slice Ao36 t292.length co36]] (by rfl) rfl rfl (by (try simp only [List.map_toArray, List.map_cons, List.map_nil]); first | done | rfl | (simp only [List.length_drop, List.length_take]; rfl)) ?_
      with_reducible refine (carouselref5_Alike.calls kj4 _ _ t277 _ _ t280 _ _ t289 _ _ t292 t295 _ ?side1 ?side2 ?side3 ?side4 ?side5 ?side6 ?side7 ?side8 A16.out).mono ?_
      (case side1 => exact zk_ ((Kd.R_reads' HO279.out).2.2))
      (case side2 => exact (Kd.R_reads' HO279.out).2.1)
      (case side3 => exact zk_ ((Kd.R_reads' HO282.out).2.2))
      (case side4 => exact (Kd.R_reads' HO282.out).2.1)
      (case side5 => exact zk_ ((Kd.R_reads' HO291.out).2.2))
      (case side6 => exact (Kd.R_reads' HO291.out).2.1)
      (case side7 => repeat (first | exact (Kd.V_reads' HO294.out).2.2 | (with_reducible refine Kd.C_alloc ?_ _) | (with_reducible refine Kd.C_drewN ?_ _) | (with_reducible refine Kd.C_drew ?_)))
      (case side8 => exact (Kd.V_reads' HO294.out).2.1)
      rintro e w37 ⟨rfl, hb⟩
      refine ⟨_, rfl, ?_⟩
      replace HO267 := Aside0.mk (Kd.R_below (zr_ HO267.out) hb)
      replace HO270 := Aside0.mk (Kd.V_below (by (with_reducible repeat (first | apply Kd.V_alloc | apply Kd.V_drewN | apply Kd.V_drew)); exact HO270.out) hb)
      replace HO273 := Aside0.mk (Kd.R_below (zr_ HO273.out) hb)
      replace HO276 := Aside0.mk (Kd.V_below (by (with_reducible repeat (first | apply Kd.V_alloc | apply Kd.V_drewN | apply Kd.V_drew)); exact HO276.out) hb)
      replace HO279 := Aside0.mk (Kd.R_below (zr_ HO279.out) hb)
      replace HO282 := Aside0.mk (Kd.R_below (zr_ HO282.out) hb)
      replace HO288 := Aside0.mk (Kd.R_below (zr_ HO288.out) hb)
      replace HO291 := Aside0.mk (Kd.R_below (zr_ HO291.out) hb)
      replace HO294 := Aside0.mk (Kd.V_below (by (with_reducible repeat (first | apply Kd.V_alloc | apply Kd.V_drewN | apply Kd.V_drew)); exact HO294.out) hb)
      replace BK284 := Aside0.mk (zl_ BK284 hb)
      replace HB := Aside0.mk (below_step (zw1_ HB GE284) hb)
      (try clear hb)
      (try clear hb2)
      (try clear hk)
      (try clear hi)
      refine hK.out _ _ ⟨(blk_cell BK284.out 0).trans rfl, (blk_cell BK284.out 1).trans rfl⟩ (fun hHeld => ?_)
      clear hK K
      refine zq_ (some 41) (h := ?_)
      refine zp_ 10 (some 42) (h := ?_)
      refine zp_ 11 (some 4) (h := ?_)
      refine done_ (done_of HT_.out (by kernel_rfl)) ?_
      try go_wp2
      go_ret
      exact ⟨by first | rfl | (simp [errW_none, errW_some] <;> rfl) | (simp [*, errW_none, errW_some] <;> rfl), zw1_ HB GE284⟩
     ·rw [if_neg c13] at H
      have c13b0 : (t283 == 0) = false := beq_eq_false_iff_ne.mpr c13
      have c13b1 : (t283 != 0) = true := bne_iff_ne.mpr c13
      exact absurd H (by simp)
 ·replace c4 := Bool.eq_false_iff.mpr c4
  subst c4
  have H1 : (none) = some r := by rw [if_neg (show ¬ (false = true) by decide)] at H; exact H
  clear H
  have H := H1
  clear H1
  exact absurd H (by simp)

/-- THE ONE PURE STATEMENT of carousellaw8_ConvWhole: yours. -/
def carousellaw8_ConvWhole.Pure : Prop := ∀ (l0 : List Int) (l1 : List Int), l0.length ≤ maxLen → l0.length * 8 ≤ 140737488351232 → (∀ x ∈ l0, (Lit.int .i64 x).wf = true) → l1.length ≤ maxLen → l1.length * 8 ≤ 140737488351232 → (∀ x ∈ l1, (Lit.int .i64 x).wf = true) → ∃ k, carousellaw8_ConvWhole.f k l0 l1 = some true
theorem carousellaw8_ConvWhole.walk (P : carousellaw8_ConvWhole.Pure) (a0 : Option Addr) (len0 cap0 : Nat) (z0 : List Int) (a1 : Option Addr) (len1 cap1 : Nat) (z1 : List Int) (w : World) (w0 : (a0 = none ∧ len0 = 0 ∧ cap0 = 0 ∧ z0 = []) ∨ ∃ x, a0 = some x ∧ len0 ≤ cap0 ∧ cap0 ≤ maxLen ∧ z0.length = cap0 ∧ (∀ i, i < z0.length → w.cell? (x.add i) = some (.int .i64 (z0.getD i 0))) ∧ ∀ n ∈ z0, (Lit.int .i64 n).wf = true) (y0 : len0 * 8 ≤ 140737488351232) (w1 : (a1 = none ∧ len1 = 0 ∧ cap1 = 0 ∧ z1 = []) ∨ ∃ x, a1 = some x ∧ len1 ≤ cap1 ∧ cap1 ≤ maxLen ∧ z1.length = cap1 ∧ (∀ i, i < z1.length → w.cell? (x.add i) = some (.int .i64 (z1.getD i 0))) ∧ ∀ n ∈ z1, (Lit.int .i64 n).wf = true) (y1 : len1 * 8 ≤ 140737488351232) :
  Calls Try.prog 5 #[.slice a0 len0 cap0, .slice a1 len1 cap1] w fun e w' => e = .returned (.bool true) ∧ Below w.heap.size w w' := by
 obtain ⟨l0, rfl, hr0, hm0, hw0, hc0⟩ := ReadsInt.ofRowC w0
 obtain ⟨l1, rfl, hr1, hm1, hw1, hc1⟩ := ReadsInt.ofRowC w1
 obtain ⟨k, h⟩ := P l0 l1 hm0 y0 hw0 hm1 y1 hw1
 refine (carousellaw8_ConvWhole.calls k _ _ l0 _ _ l1 true w (Kd.C_of_reads (d := (0 : Int)) (h1 := fun _ => rfl) hr0) hc0 (Kd.C_of_reads (d := (0 : Int)) (h1 := fun _ => rfl) hr1) hc1 h).mono ?_
 rintro e w' ⟨rfl, hd⟩
 exact ⟨rfl, hd⟩

end Go.Proofs.Ytcipfhlcgnomaaa.PConvWhole
