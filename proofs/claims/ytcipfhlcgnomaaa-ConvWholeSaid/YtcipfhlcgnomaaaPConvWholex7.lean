/- The functions that the law ConvWhole reaches, as Lean functions, and that each call of the Go function does what its Lean function says, wherever that one answers. Written by a program of mine over the print of the kit; Lean checks it. -/
import Derived.Test.YtcipfhlcgnomaaaPConvWholex0
import Derived.Test.YtcipfhlcgnomaaaPConvWholex2
import Derived.Test.YtcipfhlcgnomaaaPConvWholex4
import Derived.Test.YtcipfhlcgnomaaaPConvWholex5
import Derived.Test.YtcipfhlcgnomaaaPConvWholex6
namespace Go.Proofs.Ytcipfhlcgnomaaa.PConvWhole
open Go.RowKit Go.Proofs.YtcipfhlcgnomaaaW.PrintWords Go.Proofs.YtcipfhlcgnomaaaW.PrintLast Go.Proofs.YtcipfhlcgnomaaaW.PrintMore
attribute [local go_sem] max2_int min2_int max_two min_two max_three min_three max_four min_four   -- for this text's walks alone
set_option linter.unusedVariables false
set_option linter.unusedSimpArgs false

/-! ### carousellaw8_awake: function 11 -/
def carousellaw8_awake.f (k : Nat)  : Option (Bool) := (carousellaw8_rows.f 1 (([1, 2, 3] : List Int))).bind fun bt224 => ((carousellaw8_windows.f 1 1 (([4294967296, 4294967296] : List Int))).bind fun bt233 => ((conv_Row.f k bt224.1 bt224.2 bt233.1 bt233.2 1).bind fun bt239 => (if bt239.2.2 = 0 then ((carousellaw8_rows.f 1 (([3, 5] : List Int))).bind fun bt250 => ((carouselref5_Alike.f k bt239.1 bt239.2.1 bt250.1 bt250.2).bind fun t256 => (some t256))) else (none))))
theorem carousellaw8_awake.mono : ∀ k, LeO (carousellaw8_awake.f k ) (carousellaw8_awake.f (k + 1) ) := by
 intro  k
 unfold carousellaw8_awake.f
 repeat' first
   | (with_reducible exact carouselref5_Alike.mono _ _ _ _ _)
   | (with_reducible exact conv_Row.mono _ _ _ _ _ _)
   | (with_reducible exact LeO.refl _)
   | (with_reducible exact LeO.none _)
   | (with_reducible refine LeO.ite ?_ ?_)
   | (with_reducible refine LeO.bind ?_ (fun _ => ?_))
   | exact carouselref5_Alike.mono _ _ _ _ _
   | exact conv_Row.mono _ _ _ _ _ _
   | exact LeO.none _
   | refine LeO.ite ?_ ?_
   | refine LeO.bind ?_ (fun _ => ?_)
def carousellaw8_awake.T2 : Bool × List (List Nat × List Nat) := (true, [([], []), ([0], [0]), ([1], [1]), ([2], [2]), ([2], [2]), ([4, 2, 2], [2, 4]), ([3, 5, 5, 2], [2, 3, 5]), ([2, 6], [2, 6]), ([7, 6, 0, 1, 2, 3, 4, 5, 6, 7], [7])])
def carousellaw8_awake.B2 : List Nat := [0, 1, 3, 7, 7, 23, 63, 127, 255]
theorem carousellaw8_awake.tab2 : rtab .any (opsOf Try.f11 2) = carousellaw8_awake.T2 := by kernel_rfl
theorem carousellaw8_awake.bits2 : waitsOk carousellaw8_awake.T2.2 carousellaw8_awake.B2 = true := by kernel_rfl
set_option maxHeartbeats 8000000 in
set_option maxRecDepth 100000 in
theorem carousellaw8_awake.calls (k : Nat)  (r : Bool) (w : World) (h : carousellaw8_awake.f k  = some r) :
  Calls Try.prog 11 #[] w fun e w' => e = .returned (.bool r) ∧ Below w.heap.size w w' := by
 have hu25 := Try.underlying25
 have HB := Aside0.mk (Below.refl w.heap.size w)
 have H : ((carousellaw8_rows.f 1 (([1, 2, 3] : List Int))).bind fun bt224 => ((carousellaw8_windows.f 1 1 (([4294967296, 4294967296] : List Int))).bind fun bt233 => ((conv_Row.f k bt224.1 bt224.2 bt233.1 bt233.2 1).bind fun bt239 => (if bt239.2.2 = 0 then ((carousellaw8_rows.f 1 (([3, 5] : List Int))).bind fun bt250 => ((carouselref5_Alike.f k bt239.1 bt239.2.1 bt250.1 bt250.2).bind fun t256 => (some t256))) else (none))))) = some r := h
 clear h
 obtain ⟨y221, hy221⟩ : ∃ y_ : List Int, y_ = (([1, 2, 3] : List Int)) := ⟨_, rfl⟩
 replace H : ((carousellaw8_rows.f 1 y221).bind fun bt224 => ((carousellaw8_windows.f 1 1 (([4294967296, 4294967296] : List Int))).bind fun bt233 => ((conv_Row.f k bt224.1 bt224.2 bt233.1 bt233.2 1).bind fun bt239 => (if bt239.2.2 = 0 then ((carousellaw8_rows.f 1 (([3, 5] : List Int))).bind fun bt250 => ((carouselref5_Alike.f k bt239.1 bt239.2.1 bt250.1 bt250.2).bind fun t256 => (some t256))) else (none))))) = some r := by first | (rw [hy221]; with_reducible exact H) | (have H2_ := (Option.bind_some _ _).symm.trans H; rw [hy221]; with_reducible exact H2_) | (have H2_ := (Option.bind_some _ _).symm.trans H; with_reducible exact H2_) | with_reducible exact H | (rw [hy221]; exact H) | exact H
 have Ny221 := Aside0.mk hy221
 clear hy221
 replace H := Option.bind_eq_some_iff.mp H
 obtain ⟨⟨t224, t227⟩, A10, H⟩ := H
 (try dsimp only at H)
 have A1 := Aside0.mk A10
 clear A10
 obtain ⟨y230, hy230⟩ : ∃ y_ : List Int, y_ = (([4294967296, 4294967296] : List Int)) := ⟨_, rfl⟩
 replace H : ((carousellaw8_windows.f 1 1 y230).bind fun bt233 => ((conv_Row.f k t224 t227 bt233.1 bt233.2 1).bind fun bt239 => (if bt239.2.2 = 0 then ((carousellaw8_rows.f 1 (([3, 5] : List Int))).bind fun bt250 => ((carouselref5_Alike.f k bt239.1 bt239.2.1 bt250.1 bt250.2).bind fun t256 => (some t256))) else (none)))) = some r := by first | (rw [hy230]; with_reducible exact H) | (have H2_ := (Option.bind_some _ _).symm.trans H; rw [hy230]; with_reducible exact H2_) | (have H2_ := (Option.bind_some _ _).symm.trans H; with_reducible exact H2_) | with_reducible exact H | (rw [hy230]; exact H) | exact H
 have Ny230 := Aside0.mk hy230
 clear hy230
 replace H := Option.bind_eq_some_iff.mp H
 obtain ⟨⟨t233, t236⟩, A20, H⟩ := H
 (try dsimp only at H)
 have A2 := Aside0.mk A20
 clear A20
 replace H := Option.bind_eq_some_iff.mp H
 obtain ⟨⟨t239, t242, t245⟩, A30, H⟩ := H
 (try dsimp only at H)
 have A3 := Aside0.mk A30
 clear A30
 by_cases c4 : t245 = 0
 ·rw [if_pos c4] at H
  have c4b0 : (t245 == 0) = true := beq_iff_eq.mpr c4
  have c4b1 : (t245 != 0) = false := bne_eq_false_iff_eq.mpr c4
  clear c4
  obtain ⟨y247, hy247⟩ : ∃ y_ : List Int, y_ = (([3, 5] : List Int)) := ⟨_, rfl⟩
  replace H : ((carousellaw8_rows.f 1 y247).bind fun bt250 => ((carouselref5_Alike.f k t239 t242 bt250.1 bt250.2).bind fun t256 => (some t256))) = some r := by first | (rw [hy247]; with_reducible exact H) | (have H2_ := (Option.bind_some _ _).symm.trans H; rw [hy247]; with_reducible exact H2_) | (have H2_ := (Option.bind_some _ _).symm.trans H; with_reducible exact H2_) | with_reducible exact H | (rw [hy247]; exact H) | exact H
  have Ny247 := Aside0.mk hy247
  clear hy247
  replace H := Option.bind_eq_some_iff.mp H
  obtain ⟨⟨t250, t253⟩, A50, H⟩ := H
  replace H : ((carouselref5_Alike.f k t239 t242 t250 t253).bind fun t256 => (some t256)) = some r := H
  have A5 := Aside0.mk A50
  clear A50
  replace H := Option.bind_eq_some_iff.mp H
  obtain ⟨t256, A60, H⟩ := H
  replace H : (some t256) = some r := H
  have A6 := Aside0.mk A60
  clear A60
  obtain rfl := Option.some.inj H
  go_enter Try.func11, Try.ntmps11
  try go_wp2_with (first | ((with_reducible refine gate_dst (N := 4) rfl ?_); (try (refine gate_guard (by rfl) ?_; dsimp only)); refine Kd.R_lit (Kd.int .i64) _ 33 ?hg (N := 4) ?hd (xs := ([1, 2, 3] : List Int)) (inner := [.int .i64 1, .int .i64 2, .int .i64 3]) (ok := fun _ => True) (okp := fun _ => True) ?hr ?hp (fun _ hk => hk) trivial (Below.refl _ _) (Nat.le_refl _) (by simp) ?_; (case hd => rfl); (case hg => rfl); (case hr => first | (go_simp; done) | (go_simp; rfl)); (case hp => exact (Reps.one (show Kd.M (Kd.int .i64) _ _ _ 1 [.int .i64 1] from rfl) (Reps.one (show Kd.M (Kd.int .i64) _ _ _ 2 [.int .i64 2] from rfl) (Reps.one (show Kd.M (Kd.int .i64) _ _ _ 3 [.int .i64 3] from rfl) (Reps.none _ _))))); intro v222 w7 ho8 hb hg_ hnew_; clear hg_ hnew_; (first | rw [← Ny221.out] at ho8 | (simp only [Int.reduceToNat] at ho8; rw [← Ny221.out] at ho8)); have HO223 := Aside0.mk (Kd.R_lower ho8 (below_size (zw0_ HB))); replace HB := Aside0.mk (below_step (zw0_ HB) hb); clear hb ho8; obtain ⟨Ao9, co9, eo9⟩ := Kd.R_slice HO223.out; subst eo9) | ((with_reducible refine gate_callee (f := 17) rfl ?_); refine zg_ (some 5) Try.func17 #[.int .i64 1, .slice Ao9 y221.length co9] (h := ?_); (with_reducible refine (carousellaw8_rows.calls 1 (fun k_ => some k_ = (.slice Ao9 y221.length co9 : Value).ownBlock) _ _ y221 t224 t227 _ ?side1 A1.out).mono ?_); (case side1 => exact Kd.R_V (Kd.R_tight rfl (HO223.out))); rintro e w10 ⟨v225, v228, rfl, ho0, ho1, hb⟩; refine ⟨_, rfl, ?_⟩; replace HO223 := Aside0.mk (Kd.R_below (zr_ HO223.out) hb); have HO226 := Aside0.mk (Kd.R_lower (Kd.R_mono (ok' := fun k_ => True) ho0 (fun _ hk_ => trivial)) (below_size (zw0_ HB))); have HO229 := Aside0.mk (Kd.V_lower (Kd.V_mono (ok' := fun k_ => some k_ ≠ (v225 : Value).ownBlock) ho1 (fun k_ hk_ => hk_.2)) (below_size (zw0_ HB))); replace HB := Aside0.mk (below_step (zw0_ HB) hb); (try clear hb); (try clear ho0); (try clear ho1)) | ((with_reducible refine gate_dst (N := 6) rfl ?_); (try (refine gate_guard (by rfl) ?_; dsimp only)); refine Kd.R_lit (Kd.int .i64) _ 33 ?hg (N := 6) ?hd (xs := ([4294967296, 4294967296] : List Int)) (inner := [.int .i64 4294967296, .int .i64 4294967296]) (ok := fun _ => True) (okp := fun _ => True) ?hr ?hp (fun _ hk => hk) trivial (Below.refl _ _) (Nat.le_refl _) (by simp) ?_; (case hd => rfl); (case hg => rfl); (case hr => first | (go_simp; done) | (go_simp; rfl)); (case hp => exact (Reps.one (show Kd.M (Kd.int .i64) _ _ _ 4294967296 [.int .i64 4294967296] from rfl) (Reps.one (show Kd.M (Kd.int .i64) _ _ _ 4294967296 [.int .i64 4294967296] from rfl) (Reps.none _ _)))); intro v231 w11 ho12 hb hg_ hnew_; clear hg_ hnew_; (first | rw [← Ny230.out] at ho12 | (simp only [Int.reduceToNat] at ho12; rw [← Ny230.out] at ho12)); replace HO226 := Aside0.mk (Kd.R_below (zr_ HO226.out) hb); replace HO229 := Aside0.mk (Kd.V_elder' (by (with_reducible repeat (first | apply Kd.V_alloc | apply Kd.V_drewN | apply Kd.V_drew)); exact HO229.out) (Kd.R_base ho12) hb); have HO232 := Aside0.mk (Kd.R_lower (Kd.R_new' ho12 (Kd.R_lt (zr_ HO223.out))) (below_size (zw0_ HB))); replace HO223 := Aside0.mk (Kd.R_elder' (zr_ HO223.out) (Kd.R_base ho12) hb); replace HB := Aside0.mk (below_step (zw0_ HB) hb); clear hb ho12; obtain ⟨Ao13, co13, eo13⟩ := Kd.R_slice HO232.out; subst eo13) | ((with_reducible refine gate_callee (f := 16) rfl ?_); refine zg_ (some 7) Try.func16 #[.int .i64 1, .int .i64 1, .slice Ao13 y230.length co13] (h := ?_); (with_reducible refine (carousellaw8_windows.calls 1 1 (fun k_ => some k_ = (.slice Ao13 y230.length co13 : Value).ownBlock) _ _ y230 t233 t236 _ ?side1 A2.out).mono ?_); (case side1 => exact Kd.R_V (Kd.R_tight rfl (Kd.R_apart' (HO232.out) (Kd.R_typed HO226.out) (by decide)))); rintro e w14 ⟨v234, v237, rfl, ho0, ho1, hb⟩; refine ⟨_, rfl, ?_⟩; replace HO229 := Aside0.mk (Kd.V_elder' (by (with_reducible repeat (first | apply Kd.V_alloc | apply Kd.V_drewN | apply Kd.V_drew)); exact HO229.out) (Kd.R_base ho0) hb); have HO235 := Aside0.mk (Kd.R_lower (Kd.R_new' (Kd.R_mono (ok' := fun k_ => True) ho0 (fun _ hk_ => trivial)) (Kd.R_lt (zr_ HO226.out))) (below_size (zw0_ HB))); have HO238 := Aside0.mk (Kd.V_lower (Kd.V_mono (ok' := fun k_ => some k_ ≠ (v234 : Value).ownBlock ∧ some k_ ≠ (.slice Ao9 y221.length co9 : Value).ownBlock ∧ some k_ ≠ (v225 : Value).ownBlock) ho1 (fun k_ hk_ => ⟨hk_.2, Or.elim hk_.1 (fun hs_ => ((Kd.R_apart' (HO232.out) (Kd.R_typed HO226.out) (by decide)).1 k_ hs_.symm).1.2) (fun hn_ => (Kd.fresh' (Kd.R_lt (zr_ HO223.out)) k_ hn_)), Or.elim hk_.1 (fun hs_ => ((Kd.R_apart' (HO232.out) (Kd.R_typed HO226.out) (by decide)).1 k_ hs_.symm).2) (fun hn_ => (Kd.fresh' (Kd.R_lt (zr_ HO226.out)) k_ hn_))⟩)) (below_size (zw0_ HB))); replace HO223 := Aside0.mk (Kd.R_below (zr_ HO223.out) hb); replace HO226 := Aside0.mk (Kd.R_elder' (zr_ HO226.out) (Kd.R_base ho0) hb); replace HO232 := Aside0.mk (Kd.R_below (zr_ HO232.out) hb); replace HB := Aside0.mk (below_step (zw0_ HB) hb); (try clear hb); (try clear ho0); (try clear ho1); obtain ⟨Ao15, co15, eo15⟩ := Kd.R_slice HO226.out; subst eo15; obtain ⟨Ao16, co16, eo16⟩ := Kd.V_slice HO229.out; subst eo16; obtain ⟨Ao17, co17, eo17⟩ := Kd.R_slice HO235.out; subst eo17; obtain ⟨Ao18, co18, eo18⟩ := Kd.V_slice HO238.out; subst eo18) | ((with_reducible refine gate_callee (f := 13) rfl ?_); refine zg_ (some 8) Try.func13 #[.agg #[.slice Ao15 t224.length co15, .slice Ao16 t227.length co16], .agg #[.slice Ao17 t233.length co17, .slice Ao18 t236.length co18], .int .i64 1] (h := ?_); (with_reducible refine (conv_Row.calls k _ _ t224 _ _ t227 _ _ t233 _ _ t236 1 t239 t242 t245 _ ?side1 ?side2 ?side3 ?side4 ?side5 ?side6 ?side7 ?side8 A3.out).mono ?_); (case side1 => exact zk_ ((Kd.R_reads' HO226.out).2.2)); (case side2 => exact (Kd.R_reads' HO226.out).2.1); (case side3 => repeat (first | exact (Kd.V_reads' HO229.out).2.2 | (with_reducible refine Kd.C_alloc ?_ _) | (with_reducible refine Kd.C_drewN ?_ _) | (with_reducible refine Kd.C_drew ?_))); (case side4 => exact (Kd.V_reads' HO229.out).2.1); (case side5 => exact zk_ ((Kd.R_reads' HO235.out).2.2)); (case side6 => exact (Kd.R_reads' HO235.out).2.1); (case side7 => repeat (first | exact (Kd.V_reads' HO238.out).2.2 | (with_reducible refine Kd.C_alloc ?_ _) | (with_reducible refine Kd.C_drewN ?_ _) | (with_reducible refine Kd.C_drew ?_))); (case side8 => exact (Kd.V_reads' HO238.out).2.1); rintro e w19 ⟨v240, v243, rfl, ho0, ho1, hb⟩; refine ⟨_, rfl, ?_⟩; replace HO229 := Aside0.mk (Kd.V_mono (Kd.V_told (Kd.V_told (Kd.V_old (by (with_reducible repeat (first | apply Kd.V_alloc | apply Kd.V_drewN | apply Kd.V_drew)); exact HO229.out) hb) (Kd.R_base ho0)) (Kd.R_base ho1)) (fun _ h_ => h_.1)); replace HO238 := Aside0.mk (Kd.V_mono (Kd.V_told (Kd.V_told (Kd.V_old (by (with_reducible repeat (first | apply Kd.V_alloc | apply Kd.V_drewN | apply Kd.V_drew)); exact HO238.out) hb) (Kd.R_base ho0)) (Kd.R_base ho1)) (fun _ h_ => h_.1)); have HO241 := Aside0.mk (Kd.R_lower (Kd.R_new' (Kd.R_new' ho0 (Kd.R_lt (zr_ HO226.out))) (Kd.R_lt (zr_ HO235.out))) (below_size (zw0_ HB))); replace HO226 := Aside0.mk (Kd.R_elder' (zr_ HO226.out) (Kd.R_base ho0) hb); replace HO235 := Aside0.mk (Kd.R_elder' (zr_ HO235.out) (Kd.R_base ho0) hb); have HO244 := Aside0.mk (Kd.R_lower (Kd.R_new' (Kd.R_new' ho1 (Kd.R_lt (zr_ HO223.out))) (Kd.R_lt (zr_ HO232.out))) (below_size (zw0_ HB))); replace HO223 := Aside0.mk (Kd.R_elder' (zr_ HO223.out) (Kd.R_base ho1) hb); replace HO232 := Aside0.mk (Kd.R_elder' (zr_ HO232.out) (Kd.R_base ho1) hb); replace HB := Aside0.mk (below_step (zw0_ HB) hb); (try clear hb); (try clear ho0); (try clear ho1)) | ((with_reducible refine gate_dst (N := 1) rfl ?_); (try (refine gate_guard (by rfl) ?_; dsimp only)); refine box_event ?hg (N := 1) ?hd (cs := #[.slice none 0 0, .slice none 0 0]) (t := 25) ?hr ?_; (case hd => rfl); (case hg => rfl); (case hr => first | (go_simp; done) | (go_simp; rfl)); intro gb246 hg w20 hbox hb; replace HO223 := Aside0.mk (Kd.R_below (zr_ HO223.out) hb); replace HO226 := Aside0.mk (Kd.R_below (zr_ HO226.out) hb); replace HO229 := Aside0.mk (Kd.V_below (Kd.V_elderB (by (with_reducible repeat (first | apply Kd.V_alloc | apply Kd.V_drewN | apply Kd.V_drew)); exact HO229.out) gb246 (Nat.le_of_eq hg.symm)) hb); replace HO232 := Aside0.mk (Kd.R_below (zr_ HO232.out) hb); replace HO235 := Aside0.mk (Kd.R_below (zr_ HO235.out) hb); replace HO238 := Aside0.mk (Kd.V_below (Kd.V_elderB (by (with_reducible repeat (first | apply Kd.V_alloc | apply Kd.V_drewN | apply Kd.V_drew)); exact HO238.out) gb246 (Nat.le_of_eq hg.symm)) hb); replace HO241 := Aside0.mk (Kd.R_below (zr_ HO241.out) hb); replace HO244 := Aside0.mk (Kd.R_below (zr_ HO244.out) hb); have BK246 := Aside0.mk (hbox); have GW246 := Aside0.mk (zs_ hg (zw0_ HB)); have GE246 := Aside0.mk (zs_ hg (zw0_ HB)); replace HB := Aside0.mk (below_step (zw0_ HB) hb); clear hb hbox hg; obtain ⟨Ao21, co21, eo21⟩ := Kd.R_slice HO241.out; subst eo21; have hcz22_0 := zx_ (v := .slice none 0 0) BK246 0; have hcz22_1 := zx_ (v := .slice none 0 0) BK246 1; have hfz22_0 := blk_frozen BK246.out 0; have hfz22_1 := blk_frozen BK246.out 1; obtain ⟨Ao23, co23, eo23⟩ := Kd.R_slice HO244.out; subst eo23))
  have n0_ : Aside0 (Kd.R (Kd.int .i64) 33 ((w20.setCell ⟨gb246, 0, none⟩ (.slice Ao21 t239.length co21)).setCell ⟨gb246, 1, none⟩ (.slice Ao23 t242.length co23)) w.heap.size (fun k_ => some k_ ≠ (.slice Ao13 y230.length co13 : Value).ownBlock ∧ some k_ ≠ (.slice Ao23 t242.length co23 : Value).ownBlock) (.slice Ao9 y221.length co9) y221) := ⟨zr_ (Kd.R_mono (Kd.R_far (p := ⟨gb246, 1, none⟩) (Kd.R_far (p := ⟨gb246, 0, none⟩) (Kd.R_types HO223.out BK246.out (by decide)) (fun _ hk => hk.2) (.slice Ao21 t239.length co21)) (fun _ hk => hk.2) (.slice Ao23 t242.length co23)) (fun _ hk => ⟨hk.1.1.2, hk.1.2⟩))⟩
  have n1_ : Aside0 (Kd.R (Kd.int .i64) 3 ((w20.setCell ⟨gb246, 0, none⟩ (.slice Ao21 t239.length co21)).setCell ⟨gb246, 1, none⟩ (.slice Ao23 t242.length co23)) w.heap.size (fun k_ => some k_ ≠ (.slice Ao17 t233.length co17 : Value).ownBlock ∧ some k_ ≠ (.slice Ao21 t239.length co21 : Value).ownBlock) (.slice Ao15 t224.length co15) t224) := ⟨zr_ (Kd.R_mono (Kd.R_far (p := ⟨gb246, 1, none⟩) (Kd.R_far (p := ⟨gb246, 0, none⟩) (Kd.R_types HO226.out BK246.out (by decide)) (fun _ hk => hk.2) (.slice Ao21 t239.length co21)) (fun _ hk => hk.2) (.slice Ao23 t242.length co23)) (fun _ hk => ⟨hk.1.1.2, hk.1.2⟩))⟩
  have n2_ : Aside0 (Kd.V (Kd.int .i64) 33 ((w20.setCell ⟨gb246, 0, none⟩ (.slice Ao21 t239.length co21)).setCell ⟨gb246, 1, none⟩ (.slice Ao23 t242.length co23)) w.heap.size (fun k_ => some k_ ≠ (.slice Ao15 t224.length co15 : Value).ownBlock ∧ some k_ ≠ (.slice Ao13 y230.length co13 : Value).ownBlock ∧ some k_ ≠ (.slice Ao17 t233.length co17 : Value).ownBlock ∧ some k_ ≠ (.slice Ao21 t239.length co21 : Value).ownBlock ∧ some k_ ≠ (.slice Ao23 t242.length co23 : Value).ownBlock ∧ k_ ≠ gb246) (.slice Ao16 t227.length co16) t227) := ⟨by (with_reducible repeat (first | apply Kd.V_alloc | apply Kd.V_drewN | apply Kd.V_drew)); exact Kd.V_mono (Kd.V_far (p := ⟨gb246, 1, none⟩) (Kd.V_far (p := ⟨gb246, 0, none⟩) (Kd.V_mono HO229.out (fun k_ hk => (⟨hk, hk.2⟩ : _ ∧ k_ ≠ gb246))) (fun _ hk => hk.2) (.slice Ao21 t239.length co21)) (fun _ hk => hk.2) (.slice Ao23 t242.length co23)) (fun _ hk => ⟨hk.1.1.1.1.1.1, ⟨hk.1.1.1.1.1.2, ⟨hk.1.1.1.1.2, ⟨hk.1.1.1.2, ⟨hk.1.1.2, hk.1.2⟩⟩⟩⟩⟩)⟩
  have n3_ : Aside0 (Kd.R (Kd.int .i64) 33 ((w20.setCell ⟨gb246, 0, none⟩ (.slice Ao21 t239.length co21)).setCell ⟨gb246, 1, none⟩ (.slice Ao23 t242.length co23)) w.heap.size (fun k_ => some k_ ≠ (.slice Ao9 y221.length co9 : Value).ownBlock ∧ some k_ ≠ (.slice Ao23 t242.length co23 : Value).ownBlock) (.slice Ao13 y230.length co13) y230) := ⟨zr_ (Kd.R_mono (Kd.R_far (p := ⟨gb246, 1, none⟩) (Kd.R_far (p := ⟨gb246, 0, none⟩) (Kd.R_types HO232.out BK246.out (by decide)) (fun _ hk => hk.2) (.slice Ao21 t239.length co21)) (fun _ hk => hk.2) (.slice Ao23 t242.length co23)) (fun _ hk => ⟨hk.1.1.2, hk.1.2⟩))⟩
  have n4_ : Aside0 (Kd.R (Kd.int .i64) 3 ((w20.setCell ⟨gb246, 0, none⟩ (.slice Ao21 t239.length co21)).setCell ⟨gb246, 1, none⟩ (.slice Ao23 t242.length co23)) w.heap.size (fun k_ => some k_ ≠ (.slice Ao15 t224.length co15 : Value).ownBlock ∧ some k_ ≠ (.slice Ao21 t239.length co21 : Value).ownBlock) (.slice Ao17 t233.length co17) t233) := ⟨zr_ (Kd.R_mono (Kd.R_far (p := ⟨gb246, 1, none⟩) (Kd.R_far (p := ⟨gb246, 0, none⟩) (Kd.R_types HO235.out BK246.out (by decide)) (fun _ hk => hk.2) (.slice Ao21 t239.length co21)) (fun _ hk => hk.2) (.slice Ao23 t242.length co23)) (fun _ hk => ⟨hk.1.1.2, hk.1.2⟩))⟩
  have n5_ : Aside0 (Kd.V (Kd.int .i64) 33 ((w20.setCell ⟨gb246, 0, none⟩ (.slice Ao21 t239.length co21)).setCell ⟨gb246, 1, none⟩ (.slice Ao23 t242.length co23)) w.heap.size (fun k_ => some k_ ≠ (.slice Ao9 y221.length co9 : Value).ownBlock ∧ some k_ ≠ (.slice Ao15 t224.length co15 : Value).ownBlock ∧ some k_ ≠ (.slice Ao17 t233.length co17 : Value).ownBlock ∧ some k_ ≠ (.slice Ao21 t239.length co21 : Value).ownBlock ∧ some k_ ≠ (.slice Ao23 t242.length co23 : Value).ownBlock ∧ k_ ≠ gb246) (.slice Ao18 t236.length co18) t236) := ⟨by (with_reducible repeat (first | apply Kd.V_alloc | apply Kd.V_drewN | apply Kd.V_drew)); exact Kd.V_mono (Kd.V_far (p := ⟨gb246, 1, none⟩) (Kd.V_far (p := ⟨gb246, 0, none⟩) (Kd.V_mono HO238.out (fun k_ hk => (⟨hk, hk.2⟩ : _ ∧ k_ ≠ gb246))) (fun _ hk => hk.2) (.slice Ao21 t239.length co21)) (fun _ hk => hk.2) (.slice Ao23 t242.length co23)) (fun _ hk => ⟨hk.1.1.1.1.2.1, ⟨hk.1.1.1.1.2.2, ⟨hk.1.1.1.1.1, ⟨hk.1.1.1.2, ⟨hk.1.1.2, hk.1.2⟩⟩⟩⟩⟩)⟩
  have n6_ : Aside0 (Kd.R (Kd.int .i64) 3 ((w20.setCell ⟨gb246, 0, none⟩ (.slice Ao21 t239.length co21)).setCell ⟨gb246, 1, none⟩ (.slice Ao23 t242.length co23)) w.heap.size (fun k_ => some k_ ≠ (.slice Ao15 t224.length co15 : Value).ownBlock ∧ some k_ ≠ (.slice Ao17 t233.length co17 : Value).ownBlock) (.slice Ao21 t239.length co21) t239) := ⟨zr_ (Kd.R_mono (Kd.R_far (p := ⟨gb246, 1, none⟩) (Kd.R_far (p := ⟨gb246, 0, none⟩) (Kd.R_types HO241.out BK246.out (by decide)) (fun _ hk => hk.2) (.slice Ao21 t239.length co21)) (fun _ hk => hk.2) (.slice Ao23 t242.length co23)) (fun _ hk => ⟨hk.1.1.2, hk.1.2⟩))⟩
  have n7_ : Aside0 (Kd.R (Kd.int .i64) 33 ((w20.setCell ⟨gb246, 0, none⟩ (.slice Ao21 t239.length co21)).setCell ⟨gb246, 1, none⟩ (.slice Ao23 t242.length co23)) w.heap.size (fun k_ => some k_ ≠ (.slice Ao9 y221.length co9 : Value).ownBlock ∧ some k_ ≠ (.slice Ao13 y230.length co13 : Value).ownBlock) (.slice Ao23 t242.length co23) t242) := ⟨zr_ (Kd.R_mono (Kd.R_far (p := ⟨gb246, 1, none⟩) (Kd.R_far (p := ⟨gb246, 0, none⟩) (Kd.R_types HO244.out BK246.out (by decide)) (fun _ hk => hk.2) (.slice Ao21 t239.length co21)) (fun _ hk => hk.2) (.slice Ao23 t242.length co23)) (fun _ hk => ⟨hk.1.1.2, hk.1.2⟩))⟩
  have n8_ : Aside0 (((w20.setCell ⟨gb246, 0, none⟩ (.slice Ao21 t239.length co21)).setCell ⟨gb246, 1, none⟩ (.slice Ao23 t242.length co23)).heap[gb246]? = some (.cells #[.slice Ao21 t239.length co21, .slice Ao23 t242.length co23] 25 (0, 0))) := ⟨by (with_reducible repeat (first | refine blk_drewN ?_ _ | refine blk_drew ?_ | refine blk_alloc ?_ _)); refine blk_put (cs := #[.slice Ao21 t239.length co21, .slice none 0 0]) ?_ 1 _ rfl; (with_reducible repeat (first | refine blk_drewN ?_ _ | refine blk_drew ?_ | refine blk_alloc ?_ _)); refine blk_put (cs := #[.slice none 0 0, .slice none 0 0]) ?_ 0 _ rfl; (with_reducible repeat (first | refine blk_drewN ?_ _ | refine blk_drew ?_ | refine blk_alloc ?_ _)); exact BK246.out⟩
  have n9_ : Aside0 (Below w.heap.size w ((w20.setCell ⟨gb246, 0, none⟩ (.slice Ao21 t239.length co21)).setCell ⟨gb246, 1, none⟩ (.slice Ao23 t242.length co23))) := ⟨zw1_ HB GE246⟩
  (try clear HO223)
  (try clear HO226)
  (try clear HO229)
  (try clear HO232)
  (try clear HO235)
  (try clear HO238)
  (try clear HO241)
  (try clear HO244)
  (try clear BK246)
  (try clear HB)
  generalize ((w20.setCell ⟨gb246, 0, none⟩ (.slice Ao21 t239.length co21)).setCell ⟨gb246, 1, none⟩ (.slice Ao23 t242.length co23)) = w24 at n0_ n1_ n2_ n3_ n4_ n5_ n6_ n7_ n8_ n9_ ⊢
  have HO223 := n0_
  have HO226 := n1_
  have HO229 := n2_
  have HO232 := n3_
  have HO235 := n4_
  have HO238 := n5_
  have HO241 := n6_
  have HO244 := n7_
  have BK246 := n8_
  have HB := n9_
  clear n0_ n1_ n2_ n3_ n4_ n5_ n6_ n7_ n8_ n9_
  replace HO223 := Aside0.mk (Kd.R_drew HO223.out)
  replace HO226 := Aside0.mk (Kd.R_drew HO226.out)
  replace HO229 := Aside0.mk (Kd.V_drew HO229.out)
  replace HO232 := Aside0.mk (Kd.R_drew HO232.out)
  replace HO235 := Aside0.mk (Kd.R_drew HO235.out)
  replace HO238 := Aside0.mk (Kd.V_drew HO238.out)
  replace HO241 := Aside0.mk (Kd.R_drew HO241.out)
  replace HO244 := Aside0.mk (Kd.R_drew HO244.out)
  replace BK246 := Aside0.mk (blk_drew BK246.out)
  replace HB := Aside0.mk (below_drew1 HB.out)
  refine start_ (n := 9) (S := fun w' => w'.cell? ⟨gb246, 0, none⟩ = some (.slice Ao21 t239.length co21) ∧ w'.cell? ⟨gb246, 1, none⟩ = some (.slice Ao23 t242.length co23)) (ds := []) #[false, false, false, false, false, false, false, false, false] (by kernel_rfl) rfl rfl ⟨(blk_cell BK246.out 0).trans rfl, (blk_cell BK246.out 1).trans rfl⟩ (fun hHeld => ?_); refine with_tabW carousellaw8_awake.tab2 carousellaw8_awake.bits2 (fun HT_ HW_ => ?_)
  generalize w24.drew = w25 at HO223 HO226 HO229 HO232 HO235 HO238 HO241 HO244 BK246 HB hHeld ⊢
  refine zp_ 0 (some 11) (h := ?_)
  refine zp_ 1 (some 12) (h := ?_)
  refine zp_ 2 (some 13) (h := ?_)
  refine zt_ 3 (some 14) (hr := by rintro w' ⟨s0, s1⟩; go_simp; with_reducible rfl) (h := ?_)
  refine one_ (i := 4) (N := some 15) #[true, true, true, true, true, false, false, false, false] rfl rfl (one_of HT_.out (by kernel_rfl)) (by decide) (fun K hK => ?_)
  refine Kd.R_lit_step (Kd.int .i64) _ 33 ?hg (N := 15) ?hd (xs := ([3, 5] : List Int)) (inner := [.int .i64 3, .int .i64 5]) (ok := fun _ => True) (okp := fun _ => True) ?hr ?hp (fun _ hk => hk) trivial (Below.refl _ _) (Nat.le_refl _) (by simp) ?_; (case hd => rfl); (case hg => rfl); (case hr => first | (go_simp; done) | (go_simp; rfl)); (case hp => exact (Reps.one (show Kd.M (Kd.int .i64) _ _ _ 3 [.int .i64 3] from rfl) (Reps.one (show Kd.M (Kd.int .i64) _ _ _ 5 [.int .i64 5] from rfl) (Reps.none _ _))))
  intro v248 w26 ho27 hb hg_ hnew_
  clear hg_ hnew_
  (first | rw [← Ny247.out] at ho27 | (simp only [Int.reduceToNat] at ho27; rw [← Ny247.out] at ho27))
  replace HO226 := Aside0.mk (Kd.R_below (zr_ HO226.out) hb)
  replace HO229 := Aside0.mk (Kd.V_elder' (by (with_reducible repeat (first | apply Kd.V_alloc | apply Kd.V_drewN | apply Kd.V_drew)); exact HO229.out) (Kd.R_base ho27) hb)
  replace HO235 := Aside0.mk (Kd.R_below (zr_ HO235.out) hb)
  replace HO238 := Aside0.mk (Kd.V_elder' (by (with_reducible repeat (first | apply Kd.V_alloc | apply Kd.V_drewN | apply Kd.V_drew)); exact HO238.out) (Kd.R_base ho27) hb)
  replace HO241 := Aside0.mk (Kd.R_below (zr_ HO241.out) hb)
  have HO249 := Aside0.mk (Kd.R_lower (Kd.R_new' (Kd.R_new' (Kd.R_new' ho27 (Kd.R_lt (zr_ HO223.out))) (Kd.R_lt (zr_ HO232.out))) (Kd.R_lt (zr_ HO244.out))) (below_size (zw1_ HB GE246)))
  replace HO223 := Aside0.mk (Kd.R_elder' (zr_ HO223.out) (Kd.R_base ho27) hb)
  replace HO232 := Aside0.mk (Kd.R_elder' (zr_ HO232.out) (Kd.R_base ho27) hb)
  replace HO244 := Aside0.mk (Kd.R_elder' (zr_ HO244.out) (Kd.R_base ho27) hb)
  replace BK246 := Aside0.mk (zl_ BK246 hb)
  replace HB := Aside0.mk (below_step (zw1_ HB GE246) hb)
  clear hb ho27
  obtain ⟨Ao28, co28, eo28⟩ := Kd.R_slice HO249.out
  (first | subst eo28 | (injection eo28 with f1_ f2_ f3_; have f4_ := f1_.symm; have f5_ := f3_.symm; clear f1_ f2_ f3_; subst f4_; subst f5_))
  refine hK.out _ _ ⟨(blk_cell BK246.out 0).trans rfl, (blk_cell BK246.out 1).trans rfl⟩ (fun hHeld => ?_)
  clear hK K
  refine zq_ (some 15) (h := ?_)
  refine one_ (i := 5) (N := some 16) #[true, true, true, true, true, true, false, false, false] rfl rfl (one_of HT_.out (by kernel_rfl)) (by decide) (fun K hK => ?_)
  refine goes_ Try.func17 (by kernel_rfl) rfl #[.int .i64 1, .slice Ao28 y247.length co28] (by rfl) rfl rfl (by (try simp only [List.map_toArray, List.map_cons, List.map_nil]); first | done | rfl | (simp only [List.length_drop, List.length_take]; rfl)) ?_
  with_reducible refine (carousellaw8_rows.calls 1 (fun k_ => some k_ = (.slice Ao28 y247.length co28 : Value).ownBlock) _ _ y247 t250 t253 _ ?side1 A5.out).mono ?_
  (case side1 => exact Kd.R_V (Kd.R_tight rfl (Kd.R_types (Kd.R_apart' (Kd.R_apart' (Kd.R_apart' (HO249.out) (Kd.R_typed HO226.out) (by decide)) (Kd.R_typed HO235.out) (by decide)) (Kd.R_typed HO241.out) (by decide)) BK246.out (by decide))))
  rintro e w29 ⟨v251, v254, rfl, ho0, ho1, hb⟩
  refine ⟨_, rfl, ?_⟩
  replace HO229 := Aside0.mk (Kd.V_elder' (by (with_reducible repeat (first | apply Kd.V_alloc | apply Kd.V_drewN | apply Kd.V_drew)); exact HO229.out) (Kd.R_base ho0) hb)
  replace HO238 := Aside0.mk (Kd.V_elder' (by (with_reducible repeat (first | apply Kd.V_alloc | apply Kd.V_drewN | apply Kd.V_drew)); exact HO238.out) (Kd.R_base ho0) hb)
  have HO252 := Aside0.mk (Kd.R_lower (Kd.R_new' (Kd.R_new' (Kd.R_new' (Kd.R_mono (ok' := fun k_ => True) ho0 (fun _ hk_ => trivial)) (Kd.R_lt (zr_ HO226.out))) (Kd.R_lt (zr_ HO235.out))) (Kd.R_lt (zr_ HO241.out))) (below_size (zw1_ HB GE246)))
  have HO255 := Aside0.mk (Kd.V_lower (Kd.V_mono (ok' := fun k_ => some k_ ≠ (v251 : Value).ownBlock ∧ some k_ ≠ (.slice Ao9 y221.length co9 : Value).ownBlock ∧ some k_ ≠ (.slice Ao15 t224.length co15 : Value).ownBlock ∧ some k_ ≠ (.slice Ao13 y230.length co13 : Value).ownBlock ∧ some k_ ≠ (.slice Ao17 t233.length co17 : Value).ownBlock ∧ some k_ ≠ (.slice Ao21 t239.length co21 : Value).ownBlock ∧ some k_ ≠ (.slice Ao23 t242.length co23 : Value).ownBlock ∧ k_ ≠ gb246) ho1 (fun k_ hk_ => ⟨hk_.2, Or.elim hk_.1 (fun hs_ => ((Kd.R_types (Kd.R_apart' (Kd.R_apart' (Kd.R_apart' (HO249.out) (Kd.R_typed HO226.out) (by decide)) (Kd.R_typed HO235.out) (by decide)) (Kd.R_typed HO241.out) (by decide)) BK246.out (by decide)).1 k_ hs_.symm).1.1.1.1.1.1.2) (fun hn_ => (Kd.fresh' (Kd.R_lt (zr_ HO223.out)) k_ hn_)), Or.elim hk_.1 (fun hs_ => ((Kd.R_types (Kd.R_apart' (Kd.R_apart' (Kd.R_apart' (HO249.out) (Kd.R_typed HO226.out) (by decide)) (Kd.R_typed HO235.out) (by decide)) (Kd.R_typed HO241.out) (by decide)) BK246.out (by decide)).1 k_ hs_.symm).1.1.1.2) (fun hn_ => (Kd.fresh' (Kd.R_lt (zr_ HO226.out)) k_ hn_)), Or.elim hk_.1 (fun hs_ => ((Kd.R_types (Kd.R_apart' (Kd.R_apart' (Kd.R_apart' (HO249.out) (Kd.R_typed HO226.out) (by decide)) (Kd.R_typed HO235.out) (by decide)) (Kd.R_typed HO241.out) (by decide)) BK246.out (by decide)).1 k_ hs_.symm).1.1.1.1.1.2) (fun hn_ => (Kd.fresh' (Kd.R_lt (zr_ HO232.out)) k_ hn_)), Or.elim hk_.1 (fun hs_ => ((Kd.R_types (Kd.R_apart' (Kd.R_apart' (Kd.R_apart' (HO249.out) (Kd.R_typed HO226.out) (by decide)) (Kd.R_typed HO235.out) (by decide)) (Kd.R_typed HO241.out) (by decide)) BK246.out (by decide)).1 k_ hs_.symm).1.1.2) (fun hn_ => (Kd.fresh' (Kd.R_lt (zr_ HO235.out)) k_ hn_)), Or.elim hk_.1 (fun hs_ => ((Kd.R_types (Kd.R_apart' (Kd.R_apart' (Kd.R_apart' (HO249.out) (Kd.R_typed HO226.out) (by decide)) (Kd.R_typed HO235.out) (by decide)) (Kd.R_typed HO241.out) (by decide)) BK246.out (by decide)).1 k_ hs_.symm).1.2) (fun hn_ => (Kd.fresh' (Kd.R_lt (zr_ HO241.out)) k_ hn_)), Or.elim hk_.1 (fun hs_ => ((Kd.R_types (Kd.R_apart' (Kd.R_apart' (Kd.R_apart' (HO249.out) (Kd.R_typed HO226.out) (by decide)) (Kd.R_typed HO235.out) (by decide)) (Kd.R_typed HO241.out) (by decide)) BK246.out (by decide)).1 k_ hs_.symm).1.1.1.1.2) (fun hn_ => (Kd.fresh' (Kd.R_lt (zr_ HO244.out)) k_ hn_)), Or.elim hk_.1 (fun hs_ => ((Kd.R_types (Kd.R_apart' (Kd.R_apart' (Kd.R_apart' (HO249.out) (Kd.R_typed HO226.out) (by decide)) (Kd.R_typed HO235.out) (by decide)) (Kd.R_typed HO241.out) (by decide)) BK246.out (by decide)).1 k_ hs_.symm).2) (fun hn_ => (Kd.freshB (g := gb246) (o := .cells #[.slice Ao21 t239.length co21, .slice Ao23 t242.length co23] 25 (0, 0)) (zb_ BK246) k_ hn_))⟩)) (below_size (zw1_ HB GE246)))
  replace HO223 := Aside0.mk (Kd.R_below (zr_ HO223.out) hb)
  replace HO226 := Aside0.mk (Kd.R_elder' (zr_ HO226.out) (Kd.R_base ho0) hb)
  replace HO232 := Aside0.mk (Kd.R_below (zr_ HO232.out) hb)
  replace HO235 := Aside0.mk (Kd.R_elder' (zr_ HO235.out) (Kd.R_base ho0) hb)
  replace HO241 := Aside0.mk (Kd.R_elder' (zr_ HO241.out) (Kd.R_base ho0) hb)
  replace HO244 := Aside0.mk (Kd.R_below (zr_ HO244.out) hb)
  replace HO249 := Aside0.mk (Kd.R_below (zr_ HO249.out) hb)
  replace BK246 := Aside0.mk (zl_ BK246 hb)
  replace HB := Aside0.mk (below_step (zw1_ HB GE246) hb)
  (try clear hb)
  (try clear hb2)
  (try clear hk)
  (try clear hi)
  (try clear ho0)
  (try clear ho1)
  obtain ⟨Ao30, co30, eo30⟩ := Kd.R_slice HO252.out
  (first | subst eo30 | (injection eo30 with f1_ f2_ f3_; have f4_ := f1_.symm; have f5_ := f3_.symm; clear f1_ f2_ f3_; subst f4_; subst f5_))
  obtain ⟨Ao31, co31, eo31⟩ := Kd.V_slice HO255.out
  (first | subst eo31 | (injection eo31 with f1_ f2_ f3_; have f4_ := f1_.symm; have f5_ := f3_.symm; clear f1_ f2_ f3_; subst f4_; subst f5_))
  refine hK.out _ _ ⟨(blk_cell BK246.out 0).trans rfl, (blk_cell BK246.out 1).trans rfl⟩ (fun hHeld => ?_)
  clear hK K
  refine zq_ (some 16) (h := ?_)
  refine one_ (i := 6) (N := some 17) #[true, true, true, true, true, true, true, false, false] rfl rfl (one_of HT_.out (by kernel_rfl)) (by decide) (fun K hK => ?_)
  refine goes_ Try.func15 (by kernel_rfl) rfl #[.agg #[.slice Ao21 t239.length co21, .slice Ao23 t242.length co23], .agg #[.slice Ao30 t250.length co30, .slice Ao31 t253.length co31]] (by rfl) rfl rfl (by (try simp only [List.map_toArray, List.map_cons, List.map_nil]); first | done | rfl | (simp only [List.length_drop, List.length_take]; rfl)) ?_
  with_reducible refine (carouselref5_Alike.calls k _ _ t239 _ _ t242 _ _ t250 _ _ t253 t256 _ ?side1 ?side2 ?side3 ?side4 ?side5 ?side6 ?side7 ?side8 A6.out).mono ?_
  (case side1 => exact zk_ ((Kd.R_reads' HO241.out).2.2))
  (case side2 => exact (Kd.R_reads' HO241.out).2.1)
  (case side3 => exact zk_ ((Kd.R_reads' HO244.out).2.2))
  (case side4 => exact (Kd.R_reads' HO244.out).2.1)
  (case side5 => exact zk_ ((Kd.R_reads' HO252.out).2.2))
  (case side6 => exact (Kd.R_reads' HO252.out).2.1)
  (case side7 => repeat (first | exact (Kd.V_reads' HO255.out).2.2 | (with_reducible refine Kd.C_alloc ?_ _) | (with_reducible refine Kd.C_drewN ?_ _) | (with_reducible refine Kd.C_drew ?_)))
  (case side8 => exact (Kd.V_reads' HO255.out).2.1)
  rintro e w32 ⟨rfl, hb⟩
  refine ⟨_, rfl, ?_⟩
  replace HO223 := Aside0.mk (Kd.R_below (zr_ HO223.out) hb)
  replace HO226 := Aside0.mk (Kd.R_below (zr_ HO226.out) hb)
  replace HO229 := Aside0.mk (Kd.V_below (by (with_reducible repeat (first | apply Kd.V_alloc | apply Kd.V_drewN | apply Kd.V_drew)); exact HO229.out) hb)
  replace HO232 := Aside0.mk (Kd.R_below (zr_ HO232.out) hb)
  replace HO235 := Aside0.mk (Kd.R_below (zr_ HO235.out) hb)
  replace HO238 := Aside0.mk (Kd.V_below (by (with_reducible repeat (first | apply Kd.V_alloc | apply Kd.V_drewN | apply Kd.V_drew)); exact HO238.out) hb)
  replace HO241 := Aside0.mk (Kd.R_below (zr_ HO241.out) hb)
  replace HO244 := Aside0.mk (Kd.R_below (zr_ HO244.out) hb)
  replace HO249 := Aside0.mk (Kd.R_below (zr_ HO249.out) hb)
  replace HO252 := Aside0.mk (Kd.R_below (zr_ HO252.out) hb)
  replace HO255 := Aside0.mk (Kd.V_below (by (with_reducible repeat (first | apply Kd.V_alloc | apply Kd.V_drewN | apply Kd.V_drew)); exact HO255.out) hb)
  replace BK246 := Aside0.mk (zl_ BK246 hb)
  replace HB := Aside0.mk (below_step (zw1_ HB GE246) hb)
  (try clear hb)
  (try clear hb2)
  (try clear hk)
  (try clear hi)
  refine hK.out _ _ ⟨(blk_cell BK246.out 0).trans rfl, (blk_cell BK246.out 1).trans rfl⟩ (fun hHeld => ?_)
  clear hK K
  refine zq_ (some 17) (h := ?_)
  refine zp_ 7 (some 18) (h := ?_)
  refine zp_ 8 (some 0) (h := ?_)
  refine done_ (done_of HT_.out (by kernel_rfl)) ?_
  try go_wp2
  go_ret
  exact ⟨by first | rfl | (simp [errW_none, errW_some] <;> rfl) | (simp [*, errW_none, errW_some] <;> rfl), zw1_ HB GE246⟩
 ·rw [if_neg c4] at H
  have c4b0 : (t245 == 0) = false := beq_eq_false_iff_ne.mpr c4
  have c4b1 : (t245 != 0) = true := bne_iff_ne.mpr c4
  exact absurd H (by simp)

/-! ### matm_Dot: function 18 -/
def matm_Dot.l0 : Nat → List Int → List Int → Int → Int → Int → Int → Int → Option (Int)
 | 0, _, _, _, _, _, _, _ => none
 | k + 1, x0, x1, x11, x12, x258000, x258001, x258002 => if x12 < x11 then (if 0 ≤ x12 then (if x12 < (x0.length : Int) then (if x12 < (x1.length : Int) then ((wide_Acc_Plus.f x258000 x258001 x258002 (rd x0 x12) (rd x1 x12)).bind fun bt260 => (matm_Dot.l0 k x0 x1 x11 (wrap64 (x12 + 1)) bt260.1 bt260.2.1 bt260.2.2)) else (none)) else (none)) else (none)) else ((wide_Acc_Fix.f k x258000 x258001 x258002 32).bind fun t263 => (some t263))
def matm_Dot.f (k : Nat) (l0 : List Int) (l1 : List Int) : Option (Int) := matm_Dot.l0 k l0 l1 (mn (l0.length : Int) (l1.length : Int)) 0 0 0 0
theorem matm_Dot.mono_l : ∀ k, (∀ y0 y1 y2 y3 y4 y5 y6, LeO (matm_Dot.l0 k y0 y1 y2 y3 y4 y5 y6) (matm_Dot.l0 (k + 1) y0 y1 y2 y3 y4 y5 y6))
 | 0 => fun _ _ _ _ _ _ _ r h => by simp [matm_Dot.l0] at h
 | k + 1 => by
  have ih0 := matm_Dot.mono_l k
  ·intro y0 y1 y2 y3 y4 y5 y6
   unfold matm_Dot.l0
   repeat' first
   | (with_reducible exact ih0 _ _ _ _ _ _ _)
   | (with_reducible exact wide_Acc_Fix.mono _ _ _ _ _)
   | (with_reducible exact LeO.refl _)
   | (with_reducible exact LeO.none _)
   | (with_reducible refine LeO.ite ?_ ?_)
   | (with_reducible refine LeO.bind ?_ (fun _ => ?_))
   | exact ih0 _ _ _ _ _ _ _
   | exact wide_Acc_Fix.mono _ _ _ _ _
   | exact LeO.none _
   | refine LeO.ite ?_ ?_
   | refine LeO.bind ?_ (fun _ => ?_)
theorem matm_Dot.mono : ∀ a0 a1 k, LeO (matm_Dot.f k a0 a1) (matm_Dot.f (k + 1) a0 a1) := by
 intro a0 a1 k
 have ih0 := matm_Dot.mono_l k
 unfold matm_Dot.f
 repeat' first
   | (with_reducible exact ih0 _ _ _ _ _ _ _)
   | (with_reducible exact LeO.refl _)
   | (with_reducible exact LeO.none _)
   | (with_reducible refine LeO.ite ?_ ?_)
   | (with_reducible refine LeO.bind ?_ (fun _ => ?_))
   | exact ih0 _ _ _ _ _ _ _
   | exact LeO.none _
   | refine LeO.ite ?_ ?_
   | refine LeO.bind ?_ (fun _ => ?_)
def matm_Dot.T5 : Bool × List (List Nat × List Nat) := (true, [([], []), ([], []), ([0, 1], [0, 1]), ([2], [2]), ([], []), ([], []), ([4, 5], [4, 5]), ([6], [6]), ([3, 7], [3, 7])])
def matm_Dot.B5 : List Nat := [0, 0, 3, 7, 0, 0, 48, 112, 255]
theorem matm_Dot.tab5 : rtab .any (opsOf Try.f18 5) = matm_Dot.T5 := by kernel_rfl
theorem matm_Dot.bits5 : waitsOk matm_Dot.T5.2 matm_Dot.B5 = true := by kernel_rfl
set_option maxHeartbeats 8000000 in
set_option maxRecDepth 100000 in
theorem matm_Dot.calls (k : Nat) (A0 : Option Addr) (c0 : Nat) (l0 : List Int) (A1 : Option Addr) (c1 : Nat) (l1 : List Int) (r : Int) (w : World) (hr0 : Kd.C (Kd.int .i64) w A0 l0.length l0) (hc0 : l0.length ≤ c0) (hr1 : Kd.C (Kd.int .i64) w A1 l1.length l1) (hc1 : l1.length ≤ c1) (h : matm_Dot.f k l0 l1 = some r) :
  Calls Try.prog 18 #[.slice A0 l0.length c0, .slice A1 l1.length c1] w fun e w' => e = .returned (.int .i64 r) ∧ Below w.heap.size w w' := by
 have hu54 := Try.underlying54
 have HR0 := Aside0.mk hr0
 have HC0 := Aside0.mk hc0
 clear hr0 hc0
 have HR1 := Aside0.mk hr1
 have HC1 := Aside0.mk hc1
 clear hr1 hc1
 have HB := Aside0.mk (Below.refl w.heap.size w)
 have H : (matm_Dot.l0 k l0 l1 (mn (l0.length : Int) (l1.length : Int)) 0 0 0 0) = some r := h
 clear h
 obtain ⟨ji3, hji3⟩ : ∃ j_ : Int, (mn (l0.length : Int) (l1.length : Int)) = j_ := ⟨_, rfl⟩
 replace H : (matm_Dot.l0 k l0 l1 ji3 0 0 0 0) = some r := by first | (rw [hji3] at H; exact H) | (simp only [hji3] at H ⊢; exact H)
 (try (have hji3l : 0 ≤ ji3 := by (rw [← hji3]; unfold mn; (repeat' split) <;> omega)))
 (try (have hji3m : 0 ≤ ji3 := by omega))
 have hji3_ : (if (l1.length : Int) < (l0.length : Int) then (l1.length : Int) else (l0.length : Int)) = ji3 := hji3
 have hji3n_ : (if l1.length < l0.length then (l1.length : Int) else (l0.length : Int)) = ji3 := by rw [← hji3]; first | (unfold mx; simp only [Int.ofNat_lt]) | (unfold mn; simp only [Int.ofNat_lt])
 have H' := Aside0.mk H
 clear H
 go_enter Try.func18, Try.ntmps18
 go_wp2_with (first | ((with_reducible refine gate_dst (N := 5) rfl ?_); refine box_event ?hg (N := 5) ?hd (cs := #[.int .i64 0, .int .i64 0, .int .u64 0]) (t := 54) ?hr ?_; (case hd => rfl); (case hg => rfl); (case hr => first | (go_simp; done) | (go_simp; rfl)); intro gb257 hg w4 hbox hb; have BK257 := Aside0.mk (hbox); have GW257 := Aside0.mk (zs_ hg (zw0_ HB)); have GE257 := Aside0.mk (zs_ hg (zw0_ HB)); replace HB := Aside0.mk (below_step (zw0_ HB) hb); clear hb hbox hg))
 go_loopg [12] k (fun kq v12 w' => ∃ (x12_1 : Int) (x258000_1 : Int) (x258001_1 : Int) (x258002_1 : Int), v12 = .int .i64 x12_1 ∧ Aside0 (matm_Dot.l0 kq l0 l1 ji3 x12_1 x258000_1 x258001_1 x258002_1 = some r) ∧ Aside0 (kq ≤ k) ∧ Aside0 (w'.heap[gb257]? = some (.cells #[.int .i64 x258000_1, .int .i64 x258001_1, .int .u64 x258002_1] 54 (0, 0))) ∧ Aside0 (Below w.heap.size w w'))
 case atStart => exact ⟨(0), (0), (0), (0), (by first | rfl | (simp; done) | (simp [*]; done)), H', ⟨Nat.le_refl _⟩, ⟨zb_ BK257⟩, ⟨zw1_ HB GE257⟩⟩
 case round =>
  clear H'
  try clear c1
  try clear p2
  obtain ⟨x12_1, x258000_1, x258001_1, x258002_1, rfl, HA, HK1, BK257, HB⟩ := hrel
  cases gk with
  | zero => exact absurd HA.out (by simp [matm_Dot.l0])
  | succ k1 =>
   have H := HA.out
   clear HA
   simp only [matm_Dot.l0] at H
   by_cases c5 : x12_1 < ji3
   ·rw [if_pos c5] at H
    have c5b0 : decide (x12_1 < ji3) = true := decide_eq_true c5
    clear c5
    by_cases c6 : 0 ≤ x12_1
    ·rw [if_pos c6] at H
     have c6b0 : decide (0 ≤ x12_1) = true := decide_eq_true c6
     clear c6
     by_cases c7 : x12_1 < (l0.length : Int)
     ·rw [if_pos c7] at H
      have c7b0 : decide (x12_1 < (l0.length : Int)) = true := decide_eq_true c7
      clear c7
      by_cases c8 : x12_1 < (l1.length : Int)
      ·rw [if_pos c8] at H
       have c8b0 : decide (x12_1 < (l1.length : Int)) = true := decide_eq_true c8
       clear c8
       replace H := Option.bind_eq_some_iff.mp H
       obtain ⟨⟨t260, t261, t262⟩, A90, H⟩ := H
       replace H : (matm_Dot.l0 k1 l0 l1 ji3 (wrap64 (x12_1 + 1)) t260 t261 t262) = some r := H
       have A9 := Aside0.mk A90
       clear A90
       have H' := Aside0.mk H
       clear H
       have hcz10_0 := zx_ (v := .int .i64 x258000_1) BK257 0
       have hcz10_1 := zx_ (v := .int .i64 x258001_1) BK257 1
       have hcz10_2 := zx_ (v := .int .u64 x258002_1) BK257 2
       have hfz10_0 := blk_frozen BK257.out 0
       have hfz10_1 := blk_frozen BK257.out 1
       have hfz10_2 := blk_frozen BK257.out 2
       try go_wp2
       replace BK257 := Aside0.mk (blk_drew BK257.out)
       replace HB := Aside0.mk (below_drew1 HB.out)
       have p258 : 0 ≤ (x12_1 : Int) := of_decide_eq_true (by first | (with_reducible assumption) | assumption)
       have q258 : x12_1 < (l0.length : Int) := of_decide_eq_true (by first | (with_reducible assumption) | assumption)
       obtain ⟨ad258, e258, hx258_0⟩ := Kd.at_int HR0.out x12_1 p258 q258
       have hw258_0 := hx258_0
       cases e258
       replace hx258_0 := (HB.out.cell (World.block_lt_of_cell? w _ hx258_0)).trans hx258_0
       replace p258 := eq_true p258
       replace q258 := eq_true q258
       have p259 : 0 ≤ (x12_1 : Int) := of_decide_eq_true (by first | (with_reducible assumption) | assumption)
       have q259 : x12_1 < (l1.length : Int) := of_decide_eq_true (by first | (with_reducible assumption) | assumption)
       obtain ⟨ad259, e259, hx259_0⟩ := Kd.at_int HR1.out x12_1 p259 q259
       have hw259_0 := hx259_0
       cases e259
       replace hx259_0 := (HB.out.cell (World.block_lt_of_cell? w _ hx259_0)).trans hx259_0
       replace p259 := eq_true p259
       replace q259 := eq_true q259
       refine start_ (n := 9) (S := fun w' => w'.cell? (ad258.add (x12_1).toNat) = some (.int .i64 (rd l0 x12_1)) ∧ w'.cell? (ad259.add (x12_1).toNat) = some (.int .i64 (rd l1 x12_1))) (ds := [8]) #[false, false, false, false, false, false, false, false, false] (by kernel_rfl) rfl rfl ⟨((HB.out.cell (World.block_lt_of_cell? w _ hw258_0)).trans hw258_0), ((HB.out.cell (World.block_lt_of_cell? w _ hw259_0)).trans hw259_0)⟩ (fun hHeld => ?_); refine with_tabW matm_Dot.tab5 matm_Dot.bits5 (fun HT_ HW_ => ?_)
       generalize wr.drew = w11 at BK257 HB hx258_0 hx259_0 hHeld ⊢
       refine zp_ 0 (some 15) (h := ?_)
       refine zp_ 1 (some 16) (h := ?_)
       refine zp_ 2 (some 17) (h := ?_)
       refine zp_ 4 (some 19) (h := ?_)
       refine zp_ 5 (some 20) (h := ?_)
       refine zp_ 6 (some 21) (h := ?_)
       refine zt_ 3 (some 18) (hr := by rintro w' ⟨s0, s1⟩; go_simp; with_reducible rfl) (h := ?_)
       refine zt_ 7 (some 22) (hr := by rintro w' ⟨s0, s1⟩; go_simp; with_reducible rfl) (h := ?_)
       refine last_ (i := 8) (N := some 23) #[true, true, true, true, true, true, true, true, true] rfl rfl (one_of HT_.out (by kernel_rfl)) (by decide) (fun K hK => ?_)
       refine goes_ Try.func30 (by kernel_rfl) rfl #[.pointer (some ⟨gb257, 0, none⟩), .int .i64 (rd l0 x12_1), .int .i64 (rd l1 x12_1)] (by rfl) rfl rfl (by (try simp only [List.map_toArray, List.map_cons, List.map_nil]); first | done | rfl | (simp only [List.length_drop, List.length_take]; rfl)) ?_
       with_reducible refine (wide_Acc_Plus.calls gb257 x258000_1 x258001_1 x258002_1 (rd l0 x12_1) (rd l1 x12_1) t260 t261 t262 _ (zb_ BK257) A9.out).mono ?_
       rintro e _ ⟨rfl, w12, hb, rfl⟩
       refine ⟨_, rfl, ?_⟩
       replace BK257 := Aside0.mk (zl_ BK257 hb)
       replace HB := Aside0.mk (below_step (zw1_ HB GE257) hb)
       (try clear hb)
       (try clear hb2)
       (try clear hk)
       (try clear hi)
       refine hK.out _ _ ?_
       clear hK K
       refine zq_ (some 23) (h := ?_)
       refine done_ (done_of HT_.out (by kernel_rfl)) ?_
       have hcz13_0 := zx_ (v := .int .i64 x258000_1) BK257 0
       have hcz13_1 := zx_ (v := .int .i64 x258001_1) BK257 1
       have hcz13_2 := zx_ (v := .int .u64 x258002_1) BK257 2
       have hfz13_0 := blk_frozen BK257.out 0
       have hfz13_1 := blk_frozen BK257.out 1
       have hfz13_2 := blk_frozen BK257.out 2
       try go_wp2
       go_roundg k1
       case measure => have := HK1.out; omega
       case rel => exact ⟨(wrap64 (x12_1 + 1)), (t260), (t261), (t262), (by first | rfl | (simp; done) | (simp [*]; done)), H', ⟨by have := HK1.out; omega⟩, ⟨by (with_reducible repeat (first | refine blk_drewN ?_ _ | refine blk_drew ?_ | refine blk_alloc ?_ _)); refine blk_put (cs := #[.int .i64 t260, .int .i64 t261, .int .u64 x258002_1]) ?_ 2 _ rfl; (with_reducible repeat (first | refine blk_drewN ?_ _ | refine blk_drew ?_ | refine blk_alloc ?_ _)); refine blk_put (cs := #[.int .i64 t260, .int .i64 x258001_1, .int .u64 x258002_1]) ?_ 1 _ rfl; (with_reducible repeat (first | refine blk_drewN ?_ _ | refine blk_drew ?_ | refine blk_alloc ?_ _)); refine blk_put (cs := #[.int .i64 x258000_1, .int .i64 x258001_1, .int .u64 x258002_1]) ?_ 0 _ rfl; (with_reducible repeat (first | refine blk_drewN ?_ _ | refine blk_drew ?_ | refine blk_alloc ?_ _)); exact BK257.out⟩, ⟨zw1_ HB GE257⟩⟩
      ·rw [if_neg c8] at H
       exact absurd H (by simp)
     ·rw [if_neg c7] at H
      exact absurd H (by simp)
    ·rw [if_neg c6] at H
     exact absurd H (by simp)
   ·rw [if_neg c5] at H
    have c5b0 : decide (x12_1 < ji3) = false := decide_eq_false c5
    clear c5
    replace H := Option.bind_eq_some_iff.mp H
    obtain ⟨t263, A140, H⟩ := H
    replace H : (some t263) = some r := H
    have A14 := Aside0.mk A140
    clear A140
    obtain rfl := Option.some.inj H
    have hcz15_0 := zx_ (v := .int .i64 x258000_1) BK257 0
    have hcz15_1 := zx_ (v := .int .i64 x258001_1) BK257 1
    have hcz15_2 := zx_ (v := .int .u64 x258002_1) BK257 2
    have hfz15_0 := blk_frozen BK257.out 0
    have hfz15_1 := blk_frozen BK257.out 1
    have hfz15_2 := blk_frozen BK257.out 2
    go_wp2_with (first | ((with_reducible refine gate_callee (f := 31) rfl ?_); refine zg_ (some 25) Try.func31 #[.pointer (some ⟨gb257, 0, none⟩), .int .i64 32] (h := ?_); (with_reducible refine (wide_Acc_Fix.calls k1 gb257 x258000_1 x258001_1 x258002_1 32 t263 _ (zb_ BK257) A14.out).mono ?_); rintro e w16 ⟨rfl, hb⟩; refine ⟨_, rfl, ?_⟩; replace BK257 := Aside0.mk (zl_ BK257 hb); replace HB := Aside0.mk (below_step (zw1_ HB GE257) hb); (try clear hb)))
    go_ret
    exact ⟨by first | rfl | (simp [errW_none, errW_some] <;> rfl) | (simp only [← hji3]; first | rfl | (simp [errW_none, errW_some] <;> rfl)) | (simp [*, errW_none, errW_some] <;> rfl), zw1_ HB GE257⟩

end Go.Proofs.Ytcipfhlcgnomaaa.PConvWhole
