/- The functions that the law ConvShifts reaches, as Lean functions, and that each call of the Go function does what its Lean function says, wherever that one answers. Written by a program of mine over the print of the kit; Lean checks it. -/
import Derived.Test.YtcipfhlcgnomaaaPConvShiftsx0
import Derived.Test.YtcipfhlcgnomaaaPConvShiftsx5
import Derived.Test.YtcipfhlcgnomaaaPConvShiftsx6
namespace Go.Proofs.Ytcipfhlcgnomaaa.PConvShifts
open Go.RowKit Go.Proofs.YtcipfhlcgnomaaaW.PrintWords Go.Proofs.YtcipfhlcgnomaaaW.PrintLast Go.Proofs.YtcipfhlcgnomaaaW.PrintMore
attribute [local go_sem] max2_int min2_int max_two min_two max_three min_three max_four min_four   -- for this text's walks alone
set_option linter.unusedVariables false
set_option linter.unusedSimpArgs false

/-! ### carousellaw8_awake: function 11 -/
def carousellaw8_awake.f (k : Nat)  : Option (Bool) := (carousellaw8_rows.f 1 (([1, 2, 3] : List Int))).bind fun bt224 => ((carousellaw8_windows.f 1 1 (([4294967296, 4294967296] : List Int))).bind fun bt233 => ((conv_Row.f k bt224.1 bt224.2 bt233.1 bt233.2 1).bind fun bt239 => (if bt239.2.2 = 0 then ((carousellaw8_rows.f 1 (([3, 5] : List Int))).bind fun bt250 => ((carouselref5_Alike.f k bt239.1 bt239.2.1 bt250.1 bt250.2).bind fun t256 => (some t256))) else (none))))
theorem carousellaw8_awake.mono : ∀ k, LeO (carousellaw8_awake.f k ) (carousellaw8_awake.f (k + 1) ) := by
 intro  k
 unfold carousellaw8_awake.f
 repeat' first
   | (with_reducible exact carouselref5_Alike.mono _ _ _ _ _)
   | (with_reducible exact conv_Row.mono _ _ _ _ _ _)
   | (with_reducible exact LeO.refl _)
   | (with_reducible exact LeO.none _)
   | (with_reducible refine LeO.ite ?_ ?_)
   | (with_reducible refine LeO.bind ?_ (fun _ => ?_))
   | exact carouselref5_Alike.mono _ _ _ _ _
   | exact conv_Row.mono _ _ _ _ _ _
   | exact LeO.none _
   | refine LeO.ite ?_ ?_
   | refine LeO.bind ?_ (fun _ => ?_)
def carousellaw8_awake.T2 : Bool × List (List Nat × List Nat) := (true, [([], []), ([0], [0]), ([1], [1]), ([2], [2]), ([2], [2]), ([4, 2, 2], [2, 4]), ([3, 5, 5, 2], [2, 3, 5]), ([2, 6], [2, 6]), ([7, 6, 0, 1, 2, 3, 4, 5, 6, 7], [7])])
def carousellaw8_awake.B2 : List Nat := [0, 1, 3, 7, 7, 23, 63, 127, 255]
theorem carousellaw8_awake.tab2 : rtab .any (opsOf Try.f11 2) = carousellaw8_awake.T2 := by kernel_rfl
theorem carousellaw8_awake.bits2 : waitsOk carousellaw8_awake.T2.2 carousellaw8_awake.B2 = true := by kernel_rfl
set_option maxHeartbeats 8000000 in
set_option maxRecDepth 100000 in
theorem carousellaw8_awake.calls (k : Nat)  (r : Bool) (w : World) (h : carousellaw8_awake.f k  = some r) :
  Calls Try.prog 11 #[] w fun e w' => e = .returned (.bool r) ∧ Below w.heap.size w w' := by
 have hu25 := Try.underlying25
 have HB := Aside0.mk (Below.refl w.heap.size w)
 have H : ((carousellaw8_rows.f 1 (([1, 2, 3] : List Int))).bind fun bt224 => ((carousellaw8_windows.f 1 1 (([4294967296, 4294967296] : List Int))).bind fun bt233 => ((conv_Row.f k bt224.1 bt224.2 bt233.1 bt233.2 1).bind fun bt239 => (if bt239.2.2 = 0 then ((carousellaw8_rows.f 1 (([3, 5] : List Int))).bind fun bt250 => ((carouselref5_Alike.f k bt239.1 bt239.2.1 bt250.1 bt250.2).bind fun t256 => (some t256))) else (none))))) = some r := h
 clear h
 obtain ⟨y221, hy221⟩ : ∃ y_ : List Int, y_ = (([1, 2, 3] : List Int)) := ⟨_, rfl⟩
 replace H : ((carousellaw8_rows.f 1 y221).bind fun bt224 => ((carousellaw8_windows.f 1 1 (([4294967296, 4294967296] : List Int))).bind fun bt233 => ((conv_Row.f k bt224.1 bt224.2 bt233.1 bt233.2 1).bind fun bt239 => (if bt239.2.2 = 0 then ((carousellaw8_rows.f 1 (([3, 5] : List Int))).bind fun bt250 => ((carouselref5_Alike.f k bt239.1 bt239.2.1 bt250.1 bt250.2).bind fun t256 => (some t256))) else (none))))) = some r := by first | (rw [hy221]; with_reducible exact H) | (have H2_ := (Option.bind_some _ _).symm.trans H; rw [hy221]; with_reducible exact H2_) | (have H2_ := (Option.bind_some _ _).symm.trans H; with_reducible exact H2_) | with_reducible exact H | (rw [hy221]; exact H) | exact H
 have Ny221 := Aside0.mk hy221
 clear hy221
 replace H := Option.bind_eq_some_iff.mp H
 obtain ⟨⟨t224, t227⟩, A10, H⟩ := H
 (try dsimp only at H)
 have A1 := Aside0.mk A10
 clear A10
 obtain ⟨y230, hy230⟩ : ∃ y_ : List Int, y_ = (([4294967296, 4294967296] : List Int)) := ⟨_, rfl⟩
 replace H : ((carousellaw8_windows.f 1 1 y230).bind fun bt233 => ((conv_Row.f k t224 t227 bt233.1 bt233.2 1).bind fun bt239 => (if bt239.2.2 = 0 then ((carousellaw8_rows.f 1 (([3, 5] : List Int))).bind fun bt250 => ((carouselref5_Alike.f k bt239.1 bt239.2.1 bt250.1 bt250.2).bind fun t256 => (some t256))) else (none)))) = some r := by first | (rw [hy230]; with_reducible exact H) | (have H2_ := (Option.bind_some _ _).symm.trans H; rw [hy230]; with_reducible exact H2_) | (have H2_ := (Option.bind_some _ _).symm.trans H; with_reducible exact H2_) | with_reducible exact H | (rw [hy230]; exact H) | exact H
 have Ny230 := Aside0.mk hy230
 clear hy230
 replace H := Option.bind_eq_some_iff.mp H
 obtain ⟨⟨t233, t236⟩, A20, H⟩ := H
 (try dsimp only at H)
 have A2 := Aside0.mk A20
 clear A20
 replace H := Option.bind_eq_some_iff.mp H
 obtain ⟨⟨t239, t242, t245⟩, A30, H⟩ := H
 (try dsimp only at H)
 have A3 := Aside0.mk A30
 clear A30
 by_cases c4 : t245 = 0
 ·rw [if_pos c4] at H
  have c4b0 : (t245 == 0) = true := beq_iff_eq.mpr c4
  have c4b1 : (t245 != 0) = false := bne_eq_false_iff_eq.mpr c4
  clear c4
  obtain ⟨y247, hy247⟩ : ∃ y_ : List Int, y_ = (([3, 5] : List Int)) := ⟨_, rfl⟩
  replace H : ((carousellaw8_rows.f 1 y247).bind fun bt250 => ((carouselref5_Alike.f k t239 t242 bt250.1 bt250.2).bind fun t256 => (some t256))) = some r := by first | (rw [hy247]; with_reducible exact H) | (have H2_ := (Option.bind_some _ _).symm.trans H; rw [hy247]; with_reducible exact H2_) | (have H2_ := (Option.bind_some _ _).symm.trans H; with_reducible exact H2_) | with_reducible exact H | (rw [hy247]; exact H) | exact H
  have Ny247 := Aside0.mk hy247
  clear hy247
  replace H := Option.bind_eq_some_iff.mp H
  obtain ⟨⟨t250, t253⟩, A50, H⟩ := H
  replace H : ((carouselref5_Alike.f k t239 t242 t250 t253).bind fun t256 => (some t256)) = some r := H
  have A5 := Aside0.mk A50
  clear A50
  replace H := Option.bind_eq_some_iff.mp H
  obtain ⟨t256, A60, H⟩ := H
  replace H : (some t256) = some r := H
  have A6 := Aside0.mk A60
  clear A60
  obtain rfl := Option.some.inj H
  go_enter Try.func11, Try.ntmps11
  try go_wp2_with (first | ((with_reducible refine gate_dst (N := 4) rfl ?_); (try (refine gate_guard (by rfl) ?_; dsimp only)); refine Kd.R_lit (Kd.int .i64) _ 33 ?hg (N := 4) ?hd (xs := ([1, 2, 3] : List Int)) (inner := [.int .i64 1, .int .i64 2, .int .i64 3]) (ok := fun _ => True) (okp := fun _ => True) ?hr ?hp (fun _ hk => hk) trivial (Below.refl _ _) (Nat.le_refl _) (by simp) ?_; (case hd => rfl); (case hg => rfl); (case hr => first | (go_simp; done) | (go_simp; rfl)); (case hp => exact (Reps.one (show Kd.M (Kd.int .i64) _ _ _ 1 [.int .i64 1] from rfl) (Reps.one (show Kd.M (Kd.int .i64) _ _ _ 2 [.int .i64 2] from rfl) (Reps.one (show Kd.M (Kd.int .i64) _ _ _ 3 [.int .i64 3] from rfl) (Reps.none _ _))))); intro v222 w7 ho8 hb hg_ hnew_; clear hg_ hnew_; (first | rw [← Ny221.out] at ho8 | (simp only [Int.reduceToNat] at ho8; rw [← Ny221.out] at ho8)); have HO223 := Aside0.mk (Kd.R_lower ho8 (below_size (zw0_ HB))); replace HB := Aside0.mk (below_step (zw0_ HB) hb); clear hb ho8; obtain ⟨Ao9, co9, eo9⟩ := Kd.R_slice HO223.out; subst eo9) | ((with_reducible refine gate_callee (f := 17) rfl ?_); refine zg_ (some 5) Try.func17 #[.int .i64 1, .slice Ao9 y221.length co9] (h := ?_); (with_reducible refine (carousellaw8_rows.calls 1 (fun k_ => some k_ = (.slice Ao9 y221.length co9 : Value).ownBlock) _ _ y221 t224 t227 _ ?side1 A1.out).mono ?_); (case side1 => exact Kd.R_V (Kd.R_tight rfl (HO223.out))); rintro e w10 ⟨v225, v228, rfl, ho0, ho1, hb⟩; refine ⟨_, rfl, ?_⟩; replace HO223 := Aside0.mk (Kd.R_below (zr_ HO223.out) hb); have HO226 := Aside0.mk (Kd.R_lower (Kd.R_mono (ok' := fun k_ => True) ho0 (fun _ hk_ => trivial)) (below_size (zw0_ HB))); have HO229 := Aside0.mk (Kd.V_lower (Kd.V_mono (ok' := fun k_ => some k_ ≠ (v225 : Value).ownBlock) ho1 (fun k_ hk_ => hk_.2)) (below_size (zw0_ HB))); replace HB := Aside0.mk (below_step (zw0_ HB) hb); (try clear hb); (try clear ho0); (try clear ho1)) | ((with_reducible refine gate_dst (N := 6) rfl ?_); (try (refine gate_guard (by rfl) ?_; dsimp only)); refine Kd.R_lit (Kd.int .i64) _ 33 ?hg (N := 6) ?hd (xs := ([4294967296, 4294967296] : List Int)) (inner := [.int .i64 4294967296, .int .i64 4294967296]) (ok := fun _ => True) (okp := fun _ => True) ?hr ?hp (fun _ hk => hk) trivial (Below.refl _ _) (Nat.le_refl _) (by simp) ?_; (case hd => rfl); (case hg => rfl); (case hr => first | (go_simp; done) | (go_simp; rfl)); (case hp => exact (Reps.one (show Kd.M (Kd.int .i64) _ _ _ 4294967296 [.int .i64 4294967296] from rfl) (Reps.one (show Kd.M (Kd.int .i64) _ _ _ 4294967296 [.int .i64 4294967296] from rfl) (Reps.none _ _)))); intro v231 w11 ho12 hb hg_ hnew_; clear hg_ hnew_; (first | rw [← Ny230.out] at ho12 | (simp only [Int.reduceToNat] at ho12; rw [← Ny230.out] at ho12)); replace HO226 := Aside0.mk (Kd.R_below (zr_ HO226.out) hb); replace HO229 := Aside0.mk (Kd.V_elder' (by (with_reducible repeat (first | apply Kd.V_alloc | apply Kd.V_drewN | apply Kd.V_drew)); exact HO229.out) (Kd.R_base ho12) hb); have HO232 := Aside0.mk (Kd.R_lower (Kd.R_new' ho12 (Kd.R_lt (zr_ HO223.out))) (below_size (zw0_ HB))); replace HO223 := Aside0.mk (Kd.R_elder' (zr_ HO223.out) (Kd.R_base ho12) hb); replace HB := Aside0.mk (below_step (zw0_ HB) hb); clear hb ho12; obtain ⟨Ao13, co13, eo13⟩ := Kd.R_slice HO232.out; subst eo13) | ((with_reducible refine gate_callee (f := 16) rfl ?_); refine zg_ (some 7) Try.func16 #[.int .i64 1, .int .i64 1, .slice Ao13 y230.length co13] (h := ?_); (with_reducible refine (carousellaw8_windows.calls 1 1 (fun k_ => some k_ = (.slice Ao13 y230.length co13 : Value).ownBlock) _ _ y230 t233 t236 _ ?side1 A2.out).mono ?_); (case side1 => exact Kd.R_V (Kd.R_tight rfl (Kd.R_apart' (HO232.out) (Kd.R_typed HO226.out) (by decide)))); rintro e w14 ⟨v234, v237, rfl, ho0, ho1, hb⟩; refine ⟨_, rfl, ?_⟩; replace HO229 := Aside0.mk (Kd.V_elder' (by (with_reducible repeat (first | apply Kd.V_alloc | apply Kd.V_drewN | apply Kd.V_drew)); exact HO229.out) (Kd.R_base ho0) hb); have HO235 := Aside0.mk (Kd.R_lower (Kd.R_new' (Kd.R_mono (ok' := fun k_ => True) ho0 (fun _ hk_ => trivial)) (Kd.R_lt (zr_ HO226.out))) (below_size (zw0_ HB))); have HO238 := Aside0.mk (Kd.V_lower (Kd.V_mono (ok' := fun k_ => some k_ ≠ (v234 : Value).ownBlock ∧ some k_ ≠ (.slice Ao9 y221.length co9 : Value).ownBlock ∧ some k_ ≠ (v225 : Value).ownBlock) ho1 (fun k_ hk_ => ⟨hk_.2, Or.elim hk_.1 (fun hs_ => ((Kd.R_apart' (HO232.out) (Kd.R_typed HO226.out) (by decide)).1 k_ hs_.symm).1.2) (fun hn_ => (Kd.fresh' (Kd.R_lt (zr_ HO223.out)) k_ hn_)), Or.elim hk_.1 (fun hs_ => ((Kd.R_apart' (HO232.out) (Kd.R_typed HO226.out) (by decide)).1 k_ hs_.symm).2) (fun hn_ => (Kd.fresh' (Kd.R_lt (zr_ HO226.out)) k_ hn_))⟩)) (below_size (zw0_ HB))); replace HO223 := Aside0.mk (Kd.R_below (zr_ HO223.out) hb); replace HO226 := Aside0.mk (Kd.R_elder' (zr_ HO226.out) (Kd.R_base ho0) hb); replace HO232 := Aside0.mk (Kd.R_below (zr_ HO232.out) hb); replace HB := Aside0.mk (below_step (zw0_ HB) hb); (try clear hb); (try clear ho0); (try clear ho1); obtain ⟨Ao15, co15, eo15⟩ := Kd.R_slice HO226.out; subst eo15; obtain ⟨Ao16, co16, eo16⟩ := Kd.V_slice HO229.out; subst eo16; obtain ⟨Ao17, co17, eo17⟩ := Kd.R_slice HO235.out; subst eo17; obtain ⟨Ao18, co18, eo18⟩ := Kd.V_slice HO238.out; subst eo18) | ((with_reducible refine gate_callee (f := 13) rfl ?_); refine zg_ (some 8) Try.func13 #[.agg #[.slice Ao15 t224.length co15, .slice Ao16 t227.length co16], .agg #[.slice Ao17 t233.length co17, .slice Ao18 t236.length co18], .int .i64 1] (h := ?_); (with_reducible refine (conv_Row.calls k _ _ t224 _ _ t227 _ _ t233 _ _ t236 1 t239 t242 t245 _ ?side1 ?side2 ?side3 ?side4 ?side5 ?side6 ?side7 ?side8 A3.out).mono ?_); (case side1 => exact zk_ ((Kd.R_reads' HO226.out).2.2)); (case side2 => exact (Kd.R_reads' HO226.out).2.1); (case side3 => repeat (first | exact (Kd.V_reads' HO229.out).2.2 | (with_reducible refine Kd.C_alloc ?_ _) | (with_reducible refine Kd.C_drewN ?_ _) | (with_reducible refine Kd.C_drew ?_))); (case side4 => exact (Kd.V_reads' HO229.out).2.1); (case side5 => exact zk_ ((Kd.R_reads' HO235.out).2.2)); (case side6 => exact (Kd.R_reads' HO235.out).2.1); (case side7 => repeat (first | exact (Kd.V_reads' HO238.out).2.2 | (with_reducible refine Kd.C_alloc ?_ _) | (with_reducible refine Kd.C_drewN ?_ _) | (with_reducible refine Kd.C_drew ?_))); (case side8 => exact (Kd.V_reads' HO238.out).2.1); rintro e w19 ⟨v240, v243, rfl, ho0, ho1, hb⟩; refine ⟨_, rfl, ?_⟩; replace HO229 := Aside0.mk (Kd.V_mono (Kd.V_told (Kd.V_told (Kd.V_old (by (with_reducible repeat (first | apply Kd.V_alloc | apply Kd.V_drewN | apply Kd.V_drew)); exact HO229.out) hb) (Kd.R_base ho0)) (Kd.R_base ho1)) (fun _ h_ => h_.1)); replace HO238 := Aside0.mk (Kd.V_mono (Kd.V_told (Kd.V_told (Kd.V_old (by (with_reducible repeat (first | apply Kd.V_alloc | apply Kd.V_drewN | apply Kd.V_drew)); exact HO238.out) hb) (Kd.R_base ho0)) (Kd.R_base ho1)) (fun _ h_ => h_.1)); have HO241 := Aside0.mk (Kd.R_lower (Kd.R_new' (Kd.R_new' ho0 (Kd.R_lt (zr_ HO226.out))) (Kd.R_lt (zr_ HO235.out))) (below_size (zw0_ HB))); replace HO226 := Aside0.mk (Kd.R_elder' (zr_ HO226.out) (Kd.R_base ho0) hb); replace HO235 := Aside0.mk (Kd.R_elder' (zr_ HO235.out) (Kd.R_base ho0) hb); have HO244 := Aside0.mk (Kd.R_lower (Kd.R_new' (Kd.R_new' ho1 (Kd.R_lt (zr_ HO223.out))) (Kd.R_lt (zr_ HO232.out))) (below_size (zw0_ HB))); replace HO223 := Aside0.mk (Kd.R_elder' (zr_ HO223.out) (Kd.R_base ho1) hb); replace HO232 := Aside0.mk (Kd.R_elder' (zr_ HO232.out) (Kd.R_base ho1) hb); replace HB := Aside0.mk (below_step (zw0_ HB) hb); (try clear hb); (try clear ho0); (try clear ho1)) | ((with_reducible refine gate_dst (N := 1) rfl ?_); (try (refine gate_guard (by rfl) ?_; dsimp only)); refine box_event ?hg (N := 1) ?hd (cs := #[.slice none 0 0, .slice none 0 0]) (t := 25) ?hr ?_; (case hd => rfl); (case hg => rfl); (case hr => first | (go_simp; done) | (go_simp; rfl)); intro gb246 hg w20 hbox hb; replace HO223 := Aside0.mk (Kd.R_below (zr_ HO223.out) hb); replace HO226 := Aside0.mk (Kd.R_below (zr_ HO226.out) hb); replace HO229 := Aside0.mk (Kd.V_below (Kd.V_elderB (by (with_reducible repeat (first | apply Kd.V_alloc | apply Kd.V_drewN | apply Kd.V_drew)); exact HO229.out) gb246 (Nat.le_of_eq hg.symm)) hb); replace HO232 := Aside0.mk (Kd.R_below (zr_ HO232.out) hb); replace HO235 := Aside0.mk (Kd.R_below (zr_ HO235.out) hb); replace HO238 := Aside0.mk (Kd.V_below (Kd.V_elderB (by (with_reducible repeat (first | apply Kd.V_alloc | apply Kd.V_drewN | apply Kd.V_drew)); exact HO238.out) gb246 (Nat.le_of_eq hg.symm)) hb); replace HO241 := Aside0.mk (Kd.R_below (zr_ HO241.out) hb); replace HO244 := Aside0.mk (Kd.R_below (zr_ HO244.out) hb); have BK246 := Aside0.mk (hbox); have GW246 := Aside0.mk (zs_ hg (zw0_ HB)); have GE246 := Aside0.mk (zs_ hg (zw0_ HB)); replace HB := Aside0.mk (below_step (zw0_ HB) hb); clear hb hbox hg; obtain ⟨Ao21, co21, eo21⟩ := Kd.R_slice HO241.out; subst eo21; have hcz22_0 := zx_ (v := .slice none 0 0) BK246 0; have hcz22_1 := zx_ (v := .slice none 0 0) BK246 1; have hfz22_0 := blk_frozen BK246.out 0; have hfz22_1 := blk_frozen BK246.out 1; obtain ⟨Ao23, co23, eo23⟩ := Kd.R_slice HO244.out; subst eo23))
  have n0_ : Aside0 (Kd.R (Kd.int .i64) 33 ((w20.setCell ⟨gb246, 0, none⟩ (.slice Ao21 t239.length co21)).setCell ⟨gb246, 1, none⟩ (.slice Ao23 t242.length co23)) w.heap.size (fun k_ => some k_ ≠ (.slice Ao13 y230.length co13 : Value).ownBlock ∧ some k_ ≠ (.slice Ao23 t242.length co23 : Value).ownBlock) (.slice Ao9 y221.length co9) y221) := ⟨zr_ (Kd.R_mono (Kd.R_far (p := ⟨gb246, 1, none⟩) (Kd.R_far (p := ⟨gb246, 0, none⟩) (Kd.R_types HO223.out BK246.out (by decide)) (fun _ hk => hk.2) (.slice Ao21 t239.length co21)) (fun _ hk => hk.2) (.slice Ao23 t242.length co23)) (fun _ hk => ⟨hk.1.1.2, hk.1.2⟩))⟩
  have n1_ : Aside0 (Kd.R (Kd.int .i64) 3 ((w20.setCell ⟨gb246, 0, none⟩ (.slice Ao21 t239.length co21)).setCell ⟨gb246, 1, none⟩ (.slice Ao23 t242.length co23)) w.heap.size (fun k_ => some k_ ≠ (.slice Ao17 t233.length co17 : Value).ownBlock ∧ some k_ ≠ (.slice Ao21 t239.length co21 : Value).ownBlock) (.slice Ao15 t224.length co15) t224) := ⟨zr_ (Kd.R_mono (Kd.R_far (p := ⟨gb246, 1, none⟩) (Kd.R_far (p := ⟨gb246, 0, none⟩) (Kd.R_types HO226.out BK246.out (by decide)) (fun _ hk => hk.2) (.slice Ao21 t239.length co21)) (fun _ hk => hk.2) (.slice Ao23 t242.length co23)) (fun _ hk => ⟨hk.1.1.2, hk.1.2⟩))⟩
  have n2_ : Aside0 (Kd.V (Kd.int .i64) 33 ((w20.setCell ⟨gb246, 0, none⟩ (.slice Ao21 t239.length co21)).setCell ⟨gb246, 1, none⟩ (.slice Ao23 t242.length co23)) w.heap.size (fun k_ => some k_ ≠ (.slice Ao15 t224.length co15 : Value).ownBlock ∧ some k_ ≠ (.slice Ao13 y230.length co13 : Value).ownBlock ∧ some k_ ≠ (.slice Ao17 t233.length co17 : Value).ownBlock ∧ some k_ ≠ (.slice Ao21 t239.length co21 : Value).ownBlock ∧ some k_ ≠ (.slice Ao23 t242.length co23 : Value).ownBlock ∧ k_ ≠ gb246) (.slice Ao16 t227.length co16) t227) := ⟨by (with_reducible repeat (first | apply Kd.V_alloc | apply Kd.V_drewN | apply Kd.V_drew)); exact Kd.V_mono (Kd.V_far (p := ⟨gb246, 1, none⟩) (Kd.V_far (p := ⟨gb246, 0, none⟩) (Kd.V_mono HO229.out (fun k_ hk => (⟨hk, hk.2⟩ : _ ∧ k_ ≠ gb246))) (fun _ hk => hk.2) (.slice Ao21 t239.length co21)) (fun _ hk => hk.2) (.slice Ao23 t242.length co23)) (fun _ hk => ⟨hk.1.1.1.1.1.1, ⟨hk.1.1.1.1.1.2, ⟨hk.1.1.1.1.2, ⟨hk.1.1.1.2, ⟨hk.1.1.2, hk.1.2⟩⟩⟩⟩⟩)⟩
  have n3_ : Aside0 (Kd.R (Kd.int .i64) 33 ((w20.setCell ⟨gb246, 0, none⟩ (.slice Ao21 t239.length co21)).setCell ⟨gb246, 1, none⟩ (.slice Ao23 t242.length co23)) w.heap.size (fun k_ => some k_ ≠ (.slice Ao9 y221.length co9 : Value).ownBlock ∧ some k_ ≠ (.slice Ao23 t242.length co23 : Value).ownBlock) (.slice Ao13 y230.length co13) y230) := ⟨zr_ (Kd.R_mono (Kd.R_far (p := ⟨gb246, 1, none⟩) (Kd.R_far (p := ⟨gb246, 0, none⟩) (Kd.R_types HO232.out BK246.out (by decide)) (fun _ hk => hk.2) (.slice Ao21 t239.length co21)) (fun _ hk => hk.2) (.slice Ao23 t242.length co23)) (fun _ hk => ⟨hk.1.1.2, hk.1.2⟩))⟩
  have n4_ : Aside0 (Kd.R (Kd.int .i64) 3 ((w20.setCell ⟨gb246, 0, none⟩ (.slice Ao21 t239.length co21)).setCell ⟨gb246, 1, none⟩ (.slice Ao23 t242.length co23)) w.heap.size (fun k_ => some k_ ≠ (.slice Ao15 t224.length co15 : Value).ownBlock ∧ some k_ ≠ (.slice Ao21 t239.length co21 : Value).ownBlock) (.slice Ao17 t233.length co17) t233) := ⟨zr_ (Kd.R_mono (Kd.R_far (p := ⟨gb246, 1, none⟩) (Kd.R_far (p := ⟨gb246, 0, none⟩) (Kd.R_types HO235.out BK246.out (by decide)) (fun _ hk => hk.2) (.slice Ao21 t239.length co21)) (fun _ hk => hk.2) (.slice Ao23 t242.length co23)) (fun _ hk => ⟨hk.1.1.2, hk.1.2⟩))⟩
  have n5_ : Aside0 (Kd.V (Kd.int .i64) 33 ((w20.setCell ⟨gb246, 0, none⟩ (.slice Ao21 t239.length co21)).setCell ⟨gb246, 1, none⟩ (.slice Ao23 t242.length co23)) w.heap.size (fun k_ => some k_ ≠ (.slice Ao9 y221.length co9 : Value).ownBlock ∧ some k_ ≠ (.slice Ao15 t224.length co15 : Value).ownBlock ∧ some k_ ≠ (.slice Ao17 t233.length co17 : Value).ownBlock ∧ some k_ ≠ (.slice Ao21 t239.length co21 : Value).ownBlock ∧ some k_ ≠ (.slice Ao23 t242.length co23 : Value).ownBlock ∧ k_ ≠ gb246) (.slice Ao18 t236.length co18) t236) := ⟨by (with_reducible repeat (first | apply Kd.V_alloc | apply Kd.V_drewN | apply Kd.V_drew)); exact Kd.V_mono (Kd.V_far (p := ⟨gb246, 1, none⟩) (Kd.V_far (p := ⟨gb246, 0, none⟩) (Kd.V_mono HO238.out (fun k_ hk => (⟨hk, hk.2⟩ : _ ∧ k_ ≠ gb246))) (fun _ hk => hk.2) (.slice Ao21 t239.length co21)) (fun _ hk => hk.2) (.slice Ao23 t242.length co23)) (fun _ hk => ⟨hk.1.1.1.1.2.1, ⟨hk.1.1.1.1.2.2, ⟨hk.1.1.1.1.1, ⟨hk.1.1.1.2, ⟨hk.1.1.2, hk.1.2⟩⟩⟩⟩⟩)⟩
  have n6_ : Aside0 (Kd.R (Kd.int .i64) 3 ((w20.setCell ⟨gb246, 0, none⟩ (.slice Ao21 t239.length co21)).setCell ⟨gb246, 1, none⟩ (.slice Ao23 t242.length co23)) w.heap.size (fun k_ => some k_ ≠ (.slice Ao15 t224.length co15 : Value).ownBlock ∧ some k_ ≠ (.slice Ao17 t233.length co17 : Value).ownBlock) (.slice Ao21 t239.length co21) t239) := ⟨zr_ (Kd.R_mono (Kd.R_far (p := ⟨gb246, 1, none⟩) (Kd.R_far (p := ⟨gb246, 0, none⟩) (Kd.R_types HO241.out BK246.out (by decide)) (fun _ hk => hk.2) (.slice Ao21 t239.length co21)) (fun _ hk => hk.2) (.slice Ao23 t242.length co23)) (fun _ hk => ⟨hk.1.1.2, hk.1.2⟩))⟩
  have n7_ : Aside0 (Kd.R (Kd.int .i64) 33 ((w20.setCell ⟨gb246, 0, none⟩ (.slice Ao21 t239.length co21)).setCell ⟨gb246, 1, none⟩ (.slice Ao23 t242.length co23)) w.heap.size (fun k_ => some k_ ≠ (.slice Ao9 y221.length co9 : Value).ownBlock ∧ some k_ ≠ (.slice Ao13 y230.length co13 : Value).ownBlock) (.slice Ao23 t242.length co23) t242) := ⟨zr_ (Kd.R_mono (Kd.R_far (p := ⟨gb246, 1, none⟩) (Kd.R_far (p := ⟨gb246, 0, none⟩) (Kd.R_types HO244.out BK246.out (by decide)) (fun _ hk => hk.2) (.slice Ao21 t239.length co21)) (fun _ hk => hk.2) (.slice Ao23 t242.length co23)) (fun _ hk => ⟨hk.1.1.2, hk.1.2⟩))⟩
  have n8_ : Aside0 (((w20.setCell ⟨gb246, 0, none⟩ (.slice Ao21 t239.length co21)).setCell ⟨gb246, 1, none⟩ (.slice Ao23 t242.length co23)).heap[gb246]? = some (.cells #[.slice Ao21 t239.length co21, .slice Ao23 t242.length co23] 25 (0, 0))) := ⟨by (with_reducible repeat (first | refine blk_drewN ?_ _ | refine blk_drew ?_ | refine blk_alloc ?_ _)); refine blk_put (cs := #[.slice Ao21 t239.length co21, .slice none 0 0]) ?_ 1 _ rfl; (with_reducible repeat (first | refine blk_drewN ?_ _ | refine blk_drew ?_ | refine blk_alloc ?_ _)); refine blk_put (cs := #[.slice none 0 0, .slice none 0 0]) ?_ 0 _ rfl; (with_reducible repeat (first | refine blk_drewN ?_ _ | refine blk_drew ?_ | refine blk_alloc ?_ _)); exact BK246.out⟩
  have n9_ : Aside0 (Below w.heap.size w ((w20.setCell ⟨gb246, 0, none⟩ (.slice Ao21 t239.length co21)).setCell ⟨gb246, 1, none⟩ (.slice Ao23 t242.length co23))) := ⟨zw1_ HB GE246⟩
  (try clear HO223)
  (try clear HO226)
  (try clear HO229)
  (try clear HO232)
  (try clear HO235)
  (try clear HO238)
  (try clear HO241)
  (try clear HO244)
  (try clear BK246)
  (try clear HB)
  generalize ((w20.setCell ⟨gb246, 0, none⟩ (.slice Ao21 t239.length co21)).setCell ⟨gb246, 1, none⟩ (.slice Ao23 t242.length co23)) = w24 at n0_ n1_ n2_ n3_ n4_ n5_ n6_ n7_ n8_ n9_ ⊢
  have HO223 := n0_
  have HO226 := n1_
  have HO229 := n2_
  have HO232 := n3_
  have HO235 := n4_
  have HO238 := n5_
  have HO241 := n6_
  have HO244 := n7_
  have BK246 := n8_
  have HB := n9_
  clear n0_ n1_ n2_ n3_ n4_ n5_ n6_ n7_ n8_ n9_
  replace HO223 := Aside0.mk (Kd.R_drew HO223.out)
  replace HO226 := Aside0.mk (Kd.R_drew HO226.out)
  replace HO229 := Aside0.mk (Kd.V_drew HO229.out)
  replace HO232 := Aside0.mk (Kd.R_drew HO232.out)
  replace HO235 := Aside0.mk (Kd.R_drew HO235.out)
  replace HO238 := Aside0.mk (Kd.V_drew HO238.out)
  replace HO241 := Aside0.mk (Kd.R_drew HO241.out)
  replace HO244 := Aside0.mk (Kd.R_drew HO244.out)
  replace BK246 := Aside0.mk (blk_drew BK246.out)
  replace HB := Aside0.mk (below_drew1 HB.out)
  refine start_ (n := 9) (S := fun w' => w'.cell? ⟨gb246, 0, none⟩ = some (.slice Ao21 t239.length co21) ∧ w'.cell? ⟨gb246, 1, none⟩ = some (.slice Ao23 t242.length co23)) (ds := []) #[false, false, false, false, false, false, false, false, false] (by kernel_rfl) rfl rfl ⟨(blk_cell BK246.out 0).trans rfl, (blk_cell BK246.out 1).trans rfl⟩ (fun hHeld => ?_); refine with_tabW carousellaw8_awake.tab2 carousellaw8_awake.bits2 (fun HT_ HW_ => ?_)
  generalize w24.drew = w25 at HO223 HO226 HO229 HO232 HO235 HO238 HO241 HO244 BK246 HB hHeld ⊢
  refine zp_ 0 (some 11) (h := ?_)
  refine zp_ 1 (some 12) (h := ?_)
  refine zp_ 2 (some 13) (h := ?_)
  refine zt_ 3 (some 14) (hr := by rintro w' ⟨s0, s1⟩; go_simp; with_reducible rfl) (h := ?_)
  refine one_ (i := 4) (N := some 15) #[true, true, true, true, true, false, false, false, false] rfl rfl (one_of HT_.out (by kernel_rfl)) (by decide) (fun K hK => ?_)
  refine Kd.R_lit_step (Kd.int .i64) _ 33 ?hg (N := 15) ?hd (xs := ([3, 5] : List Int)) (inner := [.int .i64 3, .int .i64 5]) (ok := fun _ => True) (okp := fun _ => True) ?hr ?hp (fun _ hk => hk) trivial (Below.refl _ _) (Nat.le_refl _) (by simp) ?_; (case hd => rfl); (case hg => rfl); (case hr => first | (go_simp; done) | (go_simp; rfl)); (case hp => exact (Reps.one (show Kd.M (Kd.int .i64) _ _ _ 3 [.int .i64 3] from rfl) (Reps.one (show Kd.M (Kd.int .i64) _ _ _ 5 [.int .i64 5] from rfl) (Reps.none _ _))))
  intro v248 w26 ho27 hb hg_ hnew_
  clear hg_ hnew_
  (first | rw [← Ny247.out] at ho27 | (simp only [Int.reduceToNat] at ho27; rw [← Ny247.out] at ho27))
  replace HO226 := Aside0.mk (Kd.R_below (zr_ HO226.out) hb)
  replace HO229 := Aside0.mk (Kd.V_elder' (by (with_reducible repeat (first | apply Kd.V_alloc | apply Kd.V_drewN | apply Kd.V_drew)); exact HO229.out) (Kd.R_base ho27) hb)
  replace HO235 := Aside0.mk (Kd.R_below (zr_ HO235.out) hb)
  replace HO238 := Aside0.mk (Kd.V_elder' (by (with_reducible repeat (first | apply Kd.V_alloc | apply Kd.V_drewN | apply Kd.V_drew)); exact HO238.out) (Kd.R_base ho27) hb)
  replace HO241 := Aside0.mk (Kd.R_below (zr_ HO241.out) hb)
  have HO249 := Aside0.mk (Kd.R_lower (Kd.R_new' (Kd.R_new' (Kd.R_new' ho27 (Kd.R_lt (zr_ HO223.out))) (Kd.R_lt (zr_ HO232.out))) (Kd.R_lt (zr_ HO244.out))) (below_size (zw1_ HB GE246)))
  replace HO223 := Aside0.mk (Kd.R_elder' (zr_ HO223.out) (Kd.R_base ho27) hb)
  replace HO232 := Aside0.mk (Kd.R_elder' (zr_ HO232.out) (Kd.R_base ho27) hb)
  replace HO244 := Aside0.mk (Kd.R_elder' (zr_ HO244.out) (Kd.R_base ho27) hb)
  replace BK246 := Aside0.mk (zl_ BK246 hb)
  replace HB := Aside0.mk (below_step (zw1_ HB GE246) hb)
  clear hb ho27
  obtain ⟨Ao28, co28, eo28⟩ := Kd.R_slice HO249.out
  (first | subst eo28 | (injection eo28 with f1_ f2_ f3_; have f4_ := f1_.symm; have f5_ := f3_.symm; clear f1_ f2_ f3_; subst f4_; subst f5_))
  refine hK.out _ _ ⟨(blk_cell BK246.out 0).trans rfl, (blk_cell BK246.out 1).trans rfl⟩ (fun hHeld => ?_)
  clear hK K
  refine zq_ (some 15) (h := ?_)
  refine one_ (i := 5) (N := some 16) #[true, true, true, true, true, true, false, false, false] rfl rfl (one_of HT_.out (by kernel_rfl)) (by decide) (fun K hK => ?_)
  refine goes_ Try.func17 (by kernel_rfl) rfl #[.int .i64 1, .slice Ao28 y247.length co28] (by rfl) rfl rfl (by (try simp only [List.map_toArray, List.map_cons, List.map_nil]); first | done | rfl | (simp only [List.length_drop, List.length_take]; rfl)) ?_
  with_reducible refine (carousellaw8_rows.calls 1 (fun k_ => some k_ = (.slice Ao28 y247.length co28 : Value).ownBlock) _ _ y247 t250 t253 _ ?side1 A5.out).mono ?_
  (case side1 => exact Kd.R_V (Kd.R_tight rfl (Kd.R_types (Kd.R_apart' (Kd.R_apart' (Kd.R_apart' (HO249.out) (Kd.R_typed HO226.out) (by decide)) (Kd.R_typed HO235.out) (by decide)) (Kd.R_typed HO241.out) (by decide)) BK246.out (by decide))))
  rintro e w29 ⟨v251, v254, rfl, ho0, ho1, hb⟩
  refine ⟨_, rfl, ?_⟩
  replace HO229 := Aside0.mk (Kd.V_elder' (by (with_reducible repeat (first | apply Kd.V_alloc | apply Kd.V_drewN | apply Kd.V_drew)); exact HO229.out) (Kd.R_base ho0) hb)
  replace HO238 := Aside0.mk (Kd.V_elder' (by (with_reducible repeat (first | apply Kd.V_alloc | apply Kd.V_drewN | apply Kd.V_drew)); exact HO238.out) (Kd.R_base ho0) hb)
  have HO252 := Aside0.mk (Kd.R_lower (Kd.R_new' (Kd.R_new' (Kd.R_new' (Kd.R_mono (ok' := fun k_ => True) ho0 (fun _ hk_ => trivial)) (Kd.R_lt (zr_ HO226.out))) (Kd.R_lt (zr_ HO235.out))) (Kd.R_lt (zr_ HO241.out))) (below_size (zw1_ HB GE246)))
  have HO255 := Aside0.mk (Kd.V_lower (Kd.V_mono (ok' := fun k_ => some k_ ≠ (v251 : Value).ownBlock ∧ some k_ ≠ (.slice Ao9 y221.length co9 : Value).ownBlock ∧ some k_ ≠ (.slice Ao15 t224.length co15 : Value).ownBlock ∧ some k_ ≠ (.slice Ao13 y230.length co13 : Value).ownBlock ∧ some k_ ≠ (.slice Ao17 t233.length co17 : Value).ownBlock ∧ some k_ ≠ (.slice Ao21 t239.length co21 : Value).ownBlock ∧ some k_ ≠ (.slice Ao23 t242.length co23 : Value).ownBlock ∧ k_ ≠ gb246) ho1 (fun k_ hk_ => ⟨hk_.2, Or.elim hk_.1 (fun hs_ => ((Kd.R_types (Kd.R_apart' (Kd.R_apart' (Kd.R_apart' (HO249.out) (Kd.R_typed HO226.out) (by decide)) (Kd.R_typed HO235.out) (by decide)) (Kd.R_typed HO241.out) (by decide)) BK246.out (by decide)).1 k_ hs_.symm).1.1.1.1.1.1.2) (fun hn_ => (Kd.fresh' (Kd.R_lt (zr_ HO223.out)) k_ hn_)), Or.elim hk_.1 (fun hs_ => ((Kd.R_types (Kd.R_apart' (Kd.R_apart' (Kd.R_apart' (HO249.out) (Kd.R_typed HO226.out) (by decide)) (Kd.R_typed HO235.out) (by decide)) (Kd.R_typed HO241.out) (by decide)) BK246.out (by decide)).1 k_ hs_.symm).1.1.1.2) (fun hn_ => (Kd.fresh' (Kd.R_lt (zr_ HO226.out)) k_ hn_)), Or.elim hk_.1 (fun hs_ => ((Kd.R_types (Kd.R_apart' (Kd.R_apart' (Kd.R_apart' (HO249.out) (Kd.R_typed HO226.out) (by decide)) (Kd.R_typed HO235.out) (by decide)) (Kd.R_typed HO241.out) (by decide)) BK246.out (by decide)).1 k_ hs_.symm).1.1.1.1.1.2) (fun hn_ => (Kd.fresh' (Kd.R_lt (zr_ HO232.out)) k_ hn_)), Or.elim hk_.1 (fun hs_ => ((Kd.R_types (Kd.R_apart' (Kd.R_apart' (Kd.R_apart' (HO249.out) (Kd.R_typed HO226.out) (by decide)) (Kd.R_typed HO235.out) (by decide)) (Kd.R_typed HO241.out) (by decide)) BK246.out (by decide)).1 k_ hs_.symm).1.1.2) (fun hn_ => (Kd.fresh' (Kd.R_lt (zr_ HO235.out)) k_ hn_)), Or.elim hk_.1 (fun hs_ => ((Kd.R_types (Kd.R_apart' (Kd.R_apart' (Kd.R_apart' (HO249.out) (Kd.R_typed HO226.out) (by decide)) (Kd.R_typed HO235.out) (by decide)) (Kd.R_typed HO241.out) (by decide)) BK246.out (by decide)).1 k_ hs_.symm).1.2) (fun hn_ => (Kd.fresh' (Kd.R_lt (zr_ HO241.out)) k_ hn_)), Or.elim hk_.1 (fun hs_ => ((Kd.R_types (Kd.R_apart' (Kd.R_apart' (Kd.R_apart' (HO249.out) (Kd.R_typed HO226.out) (by decide)) (Kd.R_typed HO235.out) (by decide)) (Kd.R_typed HO241.out) (by decide)) BK246.out (by decide)).1 k_ hs_.symm).1.1.1.1.2) (fun hn_ => (Kd.fresh' (Kd.R_lt (zr_ HO244.out)) k_ hn_)), Or.elim hk_.1 (fun hs_ => ((Kd.R_types (Kd.R_apart' (Kd.R_apart' (Kd.R_apart' (HO249.out) (Kd.R_typed HO226.out) (by decide)) (Kd.R_typed HO235.out) (by decide)) (Kd.R_typed HO241.out) (by decide)) BK246.out (by decide)).1 k_ hs_.symm).2) (fun hn_ => (Kd.freshB (g := gb246) (o := .cells #[.slice Ao21 t239.length co21, .slice Ao23 t242.length co23] 25 (0, 0)) (zb_ BK246) k_ hn_))⟩)) (below_size (zw1_ HB GE246)))
  replace HO223 := Aside0.mk (Kd.R_below (zr_ HO223.out) hb)
  replace HO226 := Aside0.mk (Kd.R_elder' (zr_ HO226.out) (Kd.R_base ho0) hb)
  replace HO232 := Aside0.mk (Kd.R_below (zr_ HO232.out) hb)
  replace HO235 := Aside0.mk (Kd.R_elder' (zr_ HO235.out) (Kd.R_base ho0) hb)
  replace HO241 := Aside0.mk (Kd.R_elder' (zr_ HO241.out) (Kd.R_base ho0) hb)
  replace HO244 := Aside0.mk (Kd.R_below (zr_ HO244.out) hb)
  replace HO249 := Aside0.mk (Kd.R_below (zr_ HO249.out) hb)
  replace BK246 := Aside0.mk (zl_ BK246 hb)
  replace HB := Aside0.mk (below_step (zw1_ HB GE246) hb)
  (try clear hb)
  (try clear hb2)
  (try clear hk)
  (try clear hi)
  (try clear ho0)
  (try clear ho1)
  obtain ⟨Ao30, co30, eo30⟩ := Kd.R_slice HO252.out
  (first | subst eo30 | (injection eo30 with f1_ f2_ f3_; have f4_ := f1_.symm; have f5_ := f3_.symm; clear f1_ f2_ f3_; subst f4_; subst f5_))
  obtain ⟨Ao31, co31, eo31⟩ := Kd.V_slice HO255.out
  (first | subst eo31 | (injection eo31 with f1_ f2_ f3_; have f4_ := f1_.symm; have f5_ := f3_.symm; clear f1_ f2_ f3_; subst f4_; subst f5_))
  refine hK.out _ _ ⟨(blk_cell BK246.out 0).trans rfl, (blk_cell BK246.out 1).trans rfl⟩ (fun hHeld => ?_)
  clear hK K
  refine zq_ (some 16) (h := ?_)
  refine one_ (i := 6) (N := some 17) #[true, true, true, true, true, true, true, false, false] rfl rfl (one_of HT_.out (by kernel_rfl)) (by decide) (fun K hK => ?_)
  refine goes_ Try.func15 (by kernel_rfl) rfl #[.agg #[.slice Ao21 t239.length co21, .slice Ao23 t242.length co23], .agg #[.slice Ao30 t250.length co30, .slice Ao31 t253.length co31]] (by rfl) rfl rfl (by (try simp only [List.map_toArray, List.map_cons, List.map_nil]); first | done | rfl | (simp only [List.length_drop, List.length_take]; rfl)) ?_
  with_reducible refine (carouselref5_Alike.calls k _ _ t239 _ _ t242 _ _ t250 _ _ t253 t256 _ ?side1 ?side2 ?side3 ?side4 ?side5 ?side6 ?side7 ?side8 A6.out).mono ?_
  (case side1 => exact zk_ ((Kd.R_reads' HO241.out).2.2))
  (case side2 => exact (Kd.R_reads' HO241.out).2.1)
  (case side3 => exact zk_ ((Kd.R_reads' HO244.out).2.2))
  (case side4 => exact (Kd.R_reads' HO244.out).2.1)
  (case side5 => exact zk_ ((Kd.R_reads' HO252.out).2.2))
  (case side6 => exact (Kd.R_reads' HO252.out).2.1)
  (case side7 => repeat (first | exact (Kd.V_reads' HO255.out).2.2 | (with_reducible refine Kd.C_alloc ?_ _) | (with_reducible refine Kd.C_drewN ?_ _) | (with_reducible refine Kd.C_drew ?_)))
  (case side8 => exact (Kd.V_reads' HO255.out).2.1)
  rintro e w32 ⟨rfl, hb⟩
  refine ⟨_, rfl, ?_⟩
  replace HO223 := Aside0.mk (Kd.R_below (zr_ HO223.out) hb)
  replace HO226 := Aside0.mk (Kd.R_below (zr_ HO226.out) hb)
  replace HO229 := Aside0.mk (Kd.V_below (by (with_reducible repeat (first | apply Kd.V_alloc | apply Kd.V_drewN | apply Kd.V_drew)); exact HO229.out) hb)
  replace HO232 := Aside0.mk (Kd.R_below (zr_ HO232.out) hb)
  replace HO235 := Aside0.mk (Kd.R_below (zr_ HO235.out) hb)
  replace HO238 := Aside0.mk (Kd.V_below (by (with_reducible repeat (first | apply Kd.V_alloc | apply Kd.V_drewN | apply Kd.V_drew)); exact HO238.out) hb)
  replace HO241 := Aside0.mk (Kd.R_below (zr_ HO241.out) hb)
  replace HO244 := Aside0.mk (Kd.R_below (zr_ HO244.out) hb)
  replace HO249 := Aside0.mk (Kd.R_below (zr_ HO249.out) hb)
  replace HO252 := Aside0.mk (Kd.R_below (zr_ HO252.out) hb)
  replace HO255 := Aside0.mk (Kd.V_below (by (with_reducible repeat (first | apply Kd.V_alloc | apply Kd.V_drewN | apply Kd.V_drew)); exact HO255.out) hb)
  replace BK246 := Aside0.mk (zl_ BK246 hb)
  replace HB := Aside0.mk (below_step (zw1_ HB GE246) hb)
  (try clear hb)
  (try clear hb2)
  (try clear hk)
  (try clear hi)
  refine hK.out _ _ ⟨(blk_cell BK246.out 0).trans rfl, (blk_cell BK246.out 1).trans rfl⟩ (fun hHeld => ?_)
  clear hK K
  refine zq_ (some 17) (h := ?_)
  refine zp_ 7 (some 18) (h := ?_)
  refine zp_ 8 (some 0) (h := ?_)
  refine done_ (done_of HT_.out (by kernel_rfl)) ?_
  try go_wp2
  go_ret
  exact ⟨by first | rfl | (simp [errW_none, errW_some] <;> rfl) | (simp [*, errW_none, errW_some] <;> rfl), zw1_ HB GE246⟩
 ·rw [if_neg c4] at H
  have c4b0 : (t245 == 0) = false := beq_eq_false_iff_ne.mpr c4
  have c4b1 : (t245 != 0) = true := bne_iff_ne.mpr c4
  exact absurd H (by simp)

end Go.Proofs.Ytcipfhlcgnomaaa.PConvShifts
