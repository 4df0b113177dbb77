/- The functions that the law TensKeeps reaches, as Lean functions, and that each call of the Go function does what its Lean function says, wherever that one answers. Written by a program of mine over the print of the kit; Lean checks it. -/
import Derived.Test.YtbdhabpplidgfaaPTensKeepsx0
import Derived.Test.YtbdhabpplidgfaaPTensKeepsx1
import Derived.Test.YtbdhabpplidgfaaPTensKeepsx2
import Derived.Test.YtbdhabpplidgfaaPTensKeepsx5
namespace Go.Proofs.Ytbdhabpplidgfaa.PTensKeeps
open Go.RowKit Go.Proofs.YtbdhabpplidgfaaW.PrintWords Go.Proofs.YtbdhabpplidgfaaW.PrintLast Go.Proofs.YtbdhabpplidgfaaW.PrintMore
attribute [local go_sem] max2_int min2_int max_two min_two max_three min_three max_four min_four   -- for this text's walks alone
set_option linter.unusedVariables false
set_option linter.unusedSimpArgs false

/-! ### carousellaw6_awake: function 11 -/
def carousellaw6_awake.f (k : Nat)  : Option (Bool) := (tens_New.f k (([2, 3] : List Int)) 4294967296).bind fun bt234 => ((tens_Fold.f k bt234.1 bt234.2.1 (([3] : List Int))).bind fun bt245 => (if bt234.2.2 = 0 then ((tens_Good.f k bt234.1 bt234.2.1).bind fun t253 => (if t253 = true then (if (bt234.2.1.length : Int) = 6 then (if bt245.2.2 = 0 then ((carousellaw6_row.f (([8589934592, 8589934592, 8589934592] : List Int))).bind fun bt257 => ((tens_Same.f k bt245.1 bt245.2.1 bt257.1 bt257.2).bind fun t263 => (some t263))) else (none)) else (none)) else (none))) else (none)))
theorem carousellaw6_awake.mono : ∀ k, LeO (carousellaw6_awake.f k ) (carousellaw6_awake.f (k + 1) ) := by
 intro  k
 unfold carousellaw6_awake.f
 repeat' first
   | (with_reducible exact tens_Fold.mono _ _ _ _)
   | (with_reducible exact tens_Good.mono _ _ _)
   | (with_reducible exact tens_New.mono _ _ _)
   | (with_reducible exact tens_Same.mono _ _ _ _ _)
   | (with_reducible exact LeO.refl _)
   | (with_reducible exact LeO.none _)
   | (with_reducible refine LeO.ite ?_ ?_)
   | (with_reducible refine LeO.bind ?_ (fun _ => ?_))
   | exact tens_Fold.mono _ _ _ _
   | exact tens_Good.mono _ _ _
   | exact tens_New.mono _ _ _
   | exact tens_Same.mono _ _ _ _ _
   | exact LeO.none _
   | refine LeO.ite ?_ ?_
   | refine LeO.bind ?_ (fun _ => ?_)
def carousellaw6_awake.T3 : Bool × List (List Nat × List Nat) := (true, [([], []), ([0], [0]), ([1], [1]), ([2], [2]), ([3, 2, 2], [2, 3]), ([2, 4], [2, 4]), ([5, 4], [5]), ([6], [6]), ([7, 6], [6, 7]), ([8, 6], [6, 8]), ([9, 6], [6, 9]), ([6, 10], [6, 10]), ([11, 6], [11]), ([12], [12]), ([13, 12], [12, 13]), ([12, 14], [12, 14]), ([15, 12], [15]), ([16], [16]), ([16], [16]), ([18, 16, 16], [16, 18]), ([17, 19, 19, 16], [16, 17, 19]), ([16, 20], [16, 20]), ([21, 20, 0, 1, 2, 3, 4, 5, 6, 7, 8, 9, 10, 11, 12, 13, 14, 15, 16, 17, 18, 19, 20, 21], [21])])
def carousellaw6_awake.B3 : List Nat := [0, 1, 3, 7, 15, 31, 63, 127, 255, 511, 1023, 2047, 4095, 8191, 16383, 32767, 65535, 131071, 131071, 393215, 1048575, 2097151, 4194303]
theorem carousellaw6_awake.tab3 : rtab .any (opsOf Try.f11 3) = carousellaw6_awake.T3 := by kernel_rfl
theorem carousellaw6_awake.bits3 : waitsOk carousellaw6_awake.T3.2 carousellaw6_awake.B3 = true := by kernel_rfl
set_option maxHeartbeats 8000000 in
set_option maxRecDepth 100000 in
theorem carousellaw6_awake.calls (k : Nat)  (r : Bool) (w : World) (h : carousellaw6_awake.f k  = some r) :
  Calls Try.prog 11 #[] w fun e w' => e = .returned (.bool r) ∧ Below w.heap.size w w' := by
 have hu27 := Try.underlying27
 have HB := Aside0.mk (Below.refl w.heap.size w)
 have H : ((tens_New.f k (([2, 3] : List Int)) 4294967296).bind fun bt234 => ((tens_Fold.f k bt234.1 bt234.2.1 (([3] : List Int))).bind fun bt245 => (if bt234.2.2 = 0 then ((tens_Good.f k bt234.1 bt234.2.1).bind fun t253 => (if t253 = true then (if (bt234.2.1.length : Int) = 6 then (if bt245.2.2 = 0 then ((carousellaw6_row.f (([8589934592, 8589934592, 8589934592] : List Int))).bind fun bt257 => ((tens_Same.f k bt245.1 bt245.2.1 bt257.1 bt257.2).bind fun t263 => (some t263))) else (none)) else (none)) else (none))) else (none)))) = some r := h
 clear h
 obtain ⟨y231, hy231⟩ : ∃ y_ : List Int, y_ = (([2, 3] : List Int)) := ⟨_, rfl⟩
 replace H : ((tens_New.f k y231 4294967296).bind fun bt234 => ((tens_Fold.f k bt234.1 bt234.2.1 (([3] : List Int))).bind fun bt245 => (if bt234.2.2 = 0 then ((tens_Good.f k bt234.1 bt234.2.1).bind fun t253 => (if t253 = true then (if (bt234.2.1.length : Int) = 6 then (if bt245.2.2 = 0 then ((carousellaw6_row.f (([8589934592, 8589934592, 8589934592] : List Int))).bind fun bt257 => ((tens_Same.f k bt245.1 bt245.2.1 bt257.1 bt257.2).bind fun t263 => (some t263))) else (none)) else (none)) else (none))) else (none)))) = some r := by first | (rw [hy231]; with_reducible exact H) | (have H2_ := (Option.bind_some _ _).symm.trans H; rw [hy231]; with_reducible exact H2_) | (have H2_ := (Option.bind_some _ _).symm.trans H; with_reducible exact H2_) | with_reducible exact H | (rw [hy231]; exact H) | exact H
 have Ny231 := Aside0.mk hy231
 clear hy231
 replace H := Option.bind_eq_some_iff.mp H
 obtain ⟨⟨t234, t237, t240⟩, A10, H⟩ := H
 (try dsimp only at H)
 have A1 := Aside0.mk A10
 clear A10
 obtain ⟨y242, hy242⟩ : ∃ y_ : List Int, y_ = (([3] : List Int)) := ⟨_, rfl⟩
 replace H : ((tens_Fold.f k t234 t237 y242).bind fun bt245 => (if t240 = 0 then ((tens_Good.f k t234 t237).bind fun t253 => (if t253 = true then (if (t237.length : Int) = 6 then (if bt245.2.2 = 0 then ((carousellaw6_row.f (([8589934592, 8589934592, 8589934592] : List Int))).bind fun bt257 => ((tens_Same.f k bt245.1 bt245.2.1 bt257.1 bt257.2).bind fun t263 => (some t263))) else (none)) else (none)) else (none))) else (none))) = some r := by first | (rw [hy242]; with_reducible exact H) | (have H2_ := (Option.bind_some _ _).symm.trans H; rw [hy242]; with_reducible exact H2_) | (have H2_ := (Option.bind_some _ _).symm.trans H; with_reducible exact H2_) | with_reducible exact H | (rw [hy242]; exact H) | exact H
 have Ny242 := Aside0.mk hy242
 clear hy242
 replace H := Option.bind_eq_some_iff.mp H
 obtain ⟨⟨t245, t248, t251⟩, A20, H⟩ := H
 (try dsimp only at H)
 have A2 := Aside0.mk A20
 clear A20
 by_cases c3 : t240 = 0
 ·rw [if_pos c3] at H
  have c3b0 : (t240 == 0) = true := beq_iff_eq.mpr c3
  have c3b1 : (t240 != 0) = false := bne_eq_false_iff_eq.mpr c3
  clear c3
  replace H := Option.bind_eq_some_iff.mp H
  obtain ⟨t253, A40, H⟩ := H
  (try dsimp only at H)
  have A4 := Aside0.mk A40
  clear A40
  by_cases c5 : t253 = true
  ·subst c5
   have H1 := H
   rw [if_pos rfl] at H1
   clear H
   have H := H1
   clear H1
   by_cases c6 : (t237.length : Int) = 6
   ·rw [if_pos c6] at H
    have c6b0 : ((t237.length : Int) == 6) = true := beq_iff_eq.mpr c6
    have c6b1 : ((t237.length : Int) != 6) = false := bne_eq_false_iff_eq.mpr c6
    clear c6
    by_cases c7 : t251 = 0
    ·rw [if_pos c7] at H
     have c7b0 : (t251 == 0) = true := beq_iff_eq.mpr c7
     have c7b1 : (t251 != 0) = false := bne_eq_false_iff_eq.mpr c7
     clear c7
     obtain ⟨y254, hy254⟩ : ∃ y_ : List Int, y_ = (([8589934592, 8589934592, 8589934592] : List Int)) := ⟨_, rfl⟩
     replace H : ((carousellaw6_row.f y254).bind fun bt257 => ((tens_Same.f k t245 t248 bt257.1 bt257.2).bind fun t263 => (some t263))) = some r := by first | (rw [hy254]; with_reducible exact H) | (have H2_ := (Option.bind_some _ _).symm.trans H; rw [hy254]; with_reducible exact H2_) | (have H2_ := (Option.bind_some _ _).symm.trans H; with_reducible exact H2_) | with_reducible exact H | (rw [hy254]; exact H) | exact H
     have Ny254 := Aside0.mk hy254
     clear hy254
     replace H := Option.bind_eq_some_iff.mp H
     obtain ⟨⟨t257, t260⟩, A80, H⟩ := H
     replace H : ((tens_Same.f k t245 t248 t257 t260).bind fun t263 => (some t263)) = some r := H
     have A8 := Aside0.mk A80
     clear A80
     replace H := Option.bind_eq_some_iff.mp H
     obtain ⟨t263, A90, H⟩ := H
     replace H : (some t263) = some r := H
     have A9 := Aside0.mk A90
     clear A90
     obtain rfl := Option.some.inj H
     go_enter Try.func11, Try.ntmps11
     try go_wp2_with (first | ((with_reducible refine gate_dst (N := 6) rfl ?_); (try (refine gate_guard (by rfl) ?_; dsimp only)); refine Kd.R_lit (Kd.int .i64) _ 3 ?hg (N := 6) ?hd (xs := ([2, 3] : List Int)) (inner := [.int .i64 2, .int .i64 3]) (ok := fun _ => True) (okp := fun _ => True) ?hr ?hp (fun _ hk => hk) trivial (Below.refl _ _) (Nat.le_refl _) (by simp) ?_; (case hd => rfl); (case hg => rfl); (case hr => first | (go_simp; done) | (go_simp; rfl)); (case hp => exact (Reps.one (show Kd.M (Kd.int .i64) _ _ _ 2 [.int .i64 2] from rfl) (Reps.one (show Kd.M (Kd.int .i64) _ _ _ 3 [.int .i64 3] from rfl) (Reps.none _ _)))); intro v232 w10 ho11 hb hg_ hnew_; clear hg_ hnew_; (first | rw [← Ny231.out] at ho11 | (simp only [Int.reduceToNat] at ho11; rw [← Ny231.out] at ho11)); have HO233 := Aside0.mk (Kd.R_lower ho11 (below_size (zw0_ HB))); replace HB := Aside0.mk (below_step (zw0_ HB) hb); clear hb ho11; obtain ⟨Ao12, co12, eo12⟩ := Kd.R_slice HO233.out; subst eo12) | ((with_reducible refine gate_callee (f := 12) rfl ?_); refine zg_ (some 7) Try.func12 #[.slice Ao12 y231.length co12, .int .i64 4294967296] (h := ?_); (with_reducible refine (tens_New.calls k _ _ y231 4294967296 t234 t237 t240 _ ?side1 ?side2 A1.out).mono ?_); (case side1 => exact zk_ ((Kd.R_reads' HO233.out).2.2)); (case side2 => exact (Kd.R_reads' HO233.out).2.1); rintro e w13 ⟨v235, v238, rfl, ho0, ho1, hb⟩; refine ⟨_, rfl, ?_⟩; have HO236 := Aside0.mk (Kd.R_lower (Kd.R_new' ho0 (Kd.R_lt (zr_ HO233.out))) (below_size (zw0_ HB))); replace HO233 := Aside0.mk (Kd.R_elder' (zr_ HO233.out) (Kd.R_base ho0) hb); have HO239 := Aside0.mk (Kd.R_lower ho1 (below_size (zw0_ HB))); replace HB := Aside0.mk (below_step (zw0_ HB) hb); (try clear hb); (try clear ho0); (try clear ho1)) | ((with_reducible refine gate_dst (N := 1) rfl ?_); (try (refine gate_guard (by rfl) ?_; dsimp only)); refine box_event ?hg (N := 1) ?hd (cs := #[.slice none 0 0, .slice none 0 0]) (t := 27) ?hr ?_; (case hd => rfl); (case hg => rfl); (case hr => first | (go_simp; done) | (go_simp; rfl)); intro gb241 hg w14 hbox hb; replace HO233 := Aside0.mk (Kd.R_below (zr_ HO233.out) hb); replace HO236 := Aside0.mk (Kd.R_below (zr_ HO236.out) hb); replace HO239 := Aside0.mk (Kd.R_below (zr_ HO239.out) hb); have BK241 := Aside0.mk (hbox); have GW241 := Aside0.mk (zs_ hg (zw0_ HB)); have GE241 := Aside0.mk (zs_ hg (zw0_ HB)); replace HB := Aside0.mk (below_step (zw0_ HB) hb); clear hb hbox hg; obtain ⟨Ao15, co15, eo15⟩ := Kd.R_slice HO236.out; subst eo15; have hcz16_0 := zx_ (v := .slice none 0 0) BK241 0; have hcz16_1 := zx_ (v := .slice none 0 0) BK241 1; have hfz16_0 := blk_frozen BK241.out 0; have hfz16_1 := blk_frozen BK241.out 1; obtain ⟨Ao17, co17, eo17⟩ := Kd.R_slice HO239.out; subst eo17) | ((with_reducible refine gate_dst (N := 12) rfl ?_); (try (refine gate_guard (by rfl) ?_; dsimp only)); refine Kd.R_lit (Kd.int .i64) _ 3 ?hg (N := 12) ?hd (xs := ([3] : List Int)) (inner := [.int .i64 3]) (ok := fun _ => True) (okp := fun _ => True) ?hr ?hp (fun _ hk => hk) trivial (Below.refl _ _) (Nat.le_refl _) (by simp) ?_; (case hd => rfl); (case hg => rfl); (case hr => first | (go_simp; done) | (go_simp; rfl)); (case hp => exact (Reps.one (show Kd.M (Kd.int .i64) _ _ _ 3 [.int .i64 3] from rfl) (Reps.none _ _))); intro v243 w18 ho19 hb hg_ hnew_; clear hg_ hnew_; (first | rw [← Ny242.out] at ho19 | (simp only [Int.reduceToNat] at ho19; rw [← Ny242.out] at ho19)); replace HO239 := Aside0.mk (Kd.R_below (zr_ ((Kd.R_mono (Kd.R_far (p := ⟨gb241, 1, none⟩) (Kd.R_far (p := ⟨gb241, 0, none⟩) (Kd.R_types HO239.out BK241.out (by decide)) (fun _ hk => hk.2) (.slice Ao15 t234.length co15)) (fun _ hk => hk.2) (.slice Ao17 t237.length co17)) (fun _ h_ => h_.1)))) hb); have HO244 := Aside0.mk (Kd.R_lower (Kd.R_new' (Kd.R_new' ho19 (Kd.R_lt (zr_ ((Kd.R_mono (Kd.R_far (p := ⟨gb241, 1, none⟩) (Kd.R_far (p := ⟨gb241, 0, none⟩) (Kd.R_types HO233.out BK241.out (by decide)) (fun _ hk => hk.2) (.slice Ao15 t234.length co15)) (fun _ hk => hk.2) (.slice Ao17 t237.length co17)) (fun _ h_ => h_.1)))))) (Kd.R_lt (zr_ ((Kd.R_mono (Kd.R_far (p := ⟨gb241, 1, none⟩) (Kd.R_far (p := ⟨gb241, 0, none⟩) (Kd.R_types HO236.out BK241.out (by decide)) (fun _ hk => hk.2) (.slice Ao15 t234.length co15)) (fun _ hk => hk.2) (.slice Ao17 t237.length co17)) (fun _ h_ => h_.1)))))) (below_size (zw1_ HB GE241))); replace HO233 := Aside0.mk (Kd.R_elder' (zr_ ((Kd.R_mono (Kd.R_far (p := ⟨gb241, 1, none⟩) (Kd.R_far (p := ⟨gb241, 0, none⟩) (Kd.R_types HO233.out BK241.out (by decide)) (fun _ hk => hk.2) (.slice Ao15 t234.length co15)) (fun _ hk => hk.2) (.slice Ao17 t237.length co17)) (fun _ h_ => h_.1)))) (Kd.R_base ho19) hb); replace HO236 := Aside0.mk (Kd.R_elder' (zr_ ((Kd.R_mono (Kd.R_far (p := ⟨gb241, 1, none⟩) (Kd.R_far (p := ⟨gb241, 0, none⟩) (Kd.R_types HO236.out BK241.out (by decide)) (fun _ hk => hk.2) (.slice Ao15 t234.length co15)) (fun _ hk => hk.2) (.slice Ao17 t237.length co17)) (fun _ h_ => h_.1)))) (Kd.R_base ho19) hb); replace BK241 := Aside0.mk (blk_below (g := gb241) (o := .cells #[.slice Ao15 t234.length co15, .slice Ao17 t237.length co17] 27 (0, 0)) (by (with_reducible repeat (first | refine blk_drewN ?_ _ | refine blk_drew ?_ | refine blk_alloc ?_ _)); refine blk_put (cs := #[.slice Ao15 t234.length co15, .slice none 0 0]) ?_ 1 _ rfl; (with_reducible repeat (first | refine blk_drewN ?_ _ | refine blk_drew ?_ | refine blk_alloc ?_ _)); refine blk_put (cs := #[.slice none 0 0, .slice none 0 0]) ?_ 0 _ rfl; (with_reducible repeat (first | refine blk_drewN ?_ _ | refine blk_drew ?_ | refine blk_alloc ?_ _)); exact BK241.out) hb); replace HB := Aside0.mk (below_step (zw1_ HB GE241) hb); clear hb ho19; obtain ⟨Ao20, co20, eo20⟩ := Kd.R_slice HO244.out; subst eo20) | ((with_reducible refine gate_callee (f := 26) rfl ?_); refine zg_ (some 13) Try.func26 #[.agg #[.slice Ao15 t234.length co15, .slice Ao17 t237.length co17], .slice Ao20 y242.length co20] (h := ?_); (with_reducible refine (tens_Fold.calls k _ _ t234 _ _ t237 _ _ y242 t245 t248 t251 _ ?side1 ?side2 ?side3 ?side4 ?side5 ?side6 A2.out).mono ?_); (case side1 => exact zk_ ((Kd.R_reads' HO236.out).2.2)); (case side2 => exact (Kd.R_reads' HO236.out).2.1); (case side3 => exact zk_ ((Kd.R_reads' HO239.out).2.2)); (case side4 => exact (Kd.R_reads' HO239.out).2.1); (case side5 => exact zk_ ((Kd.R_reads' HO244.out).2.2)); (case side6 => exact (Kd.R_reads' HO244.out).2.1); rintro e w21 ⟨v246, v249, rfl, ho0, ho1, hb⟩; refine ⟨_, rfl, ?_⟩; have HO247 := Aside0.mk (Kd.R_lower (Kd.R_new' (Kd.R_new' (Kd.R_new' ho0 (Kd.R_lt (zr_ HO233.out))) (Kd.R_lt (zr_ HO236.out))) (Kd.R_lt (zr_ HO244.out))) (below_size (zw1_ HB GE241))); replace HO233 := Aside0.mk (Kd.R_elder' (zr_ HO233.out) (Kd.R_base ho0) hb); replace HO236 := Aside0.mk (Kd.R_elder' (zr_ HO236.out) (Kd.R_base ho0) hb); replace HO244 := Aside0.mk (Kd.R_elder' (zr_ HO244.out) (Kd.R_base ho0) hb); have HO250 := Aside0.mk (Kd.R_lower (Kd.R_new' ho1 (Kd.R_lt (zr_ HO239.out))) (below_size (zw1_ HB GE241))); replace HO239 := Aside0.mk (Kd.R_elder' (zr_ HO239.out) (Kd.R_base ho1) hb); replace BK241 := Aside0.mk (zl_ BK241 hb); replace HB := Aside0.mk (below_step (zw1_ HB GE241) hb); (try clear hb); (try clear ho0); (try clear ho1)) | ((with_reducible refine gate_dst (N := 3) rfl ?_); (try (refine gate_guard (by rfl) ?_; dsimp only)); refine box_event ?hg (N := 3) ?hd (cs := #[.slice none 0 0, .slice none 0 0]) (t := 27) ?hr ?_; (case hd => rfl); (case hg => rfl); (case hr => first | (go_simp; done) | (go_simp; rfl)); intro gb252 hg w22 hbox hb; replace HO233 := Aside0.mk (Kd.R_below (zr_ HO233.out) hb); replace HO236 := Aside0.mk (Kd.R_below (zr_ HO236.out) hb); replace HO239 := Aside0.mk (Kd.R_below (zr_ HO239.out) hb); replace HO244 := Aside0.mk (Kd.R_below (zr_ HO244.out) hb); replace HO247 := Aside0.mk (Kd.R_below (zr_ HO247.out) hb); replace HO250 := Aside0.mk (Kd.R_below (zr_ HO250.out) hb); have BK252 := Aside0.mk (hbox); have GW252 := Aside0.mk (zs_ hg (zw1_ HB GE241)); have GE252 := Aside0.mk (zs_ hg (zw1_ HB GE241)); replace HB := Aside0.mk (below_step (zw1_ HB GE241) hb); have NB241_252 := Aside0.mk (zn_ hg BK241); have NB252_241 := Aside0.mk (zm_ hg BK241); replace BK241 := Aside0.mk (zl_ BK241 hb); clear hb hbox hg; obtain ⟨Ao23, co23, eo23⟩ := Kd.R_slice HO247.out; subst eo23; have hnb24 := NB252_241.out; have hnc24 := NB241_252.out; have hcz25_0 := zx_ (v := .slice none 0 0) BK252 0; have hcz25_1 := zx_ (v := .slice none 0 0) BK252 1; have hfz25_0 := blk_frozen BK252.out 0; have hfz25_1 := blk_frozen BK252.out 1; obtain ⟨Ao26, co26, eo26⟩ := Kd.R_slice HO250.out; subst eo26))
     have n0_ : Aside0 (Kd.R (Kd.int .i64) 3 ((w22.setCell ⟨gb252, 0, none⟩ (.slice Ao23 t245.length co23)).setCell ⟨gb252, 1, none⟩ (.slice Ao26 t248.length co26)) w.heap.size (fun k_ => some k_ ≠ (.slice Ao15 t234.length co15 : Value).ownBlock ∧ some k_ ≠ (.slice Ao20 y242.length co20 : Value).ownBlock ∧ some k_ ≠ (.slice Ao23 t245.length co23 : Value).ownBlock) (.slice Ao12 y231.length co12) y231) := ⟨zr_ (Kd.R_mono (Kd.R_far (p := ⟨gb252, 1, none⟩) (Kd.R_far (p := ⟨gb252, 0, none⟩) (Kd.R_types HO233.out BK252.out (by decide)) (fun _ hk => hk.2) (.slice Ao23 t245.length co23)) (fun _ hk => hk.2) (.slice Ao26 t248.length co26)) (fun _ hk => ⟨hk.1.1.1.2, ⟨hk.1.1.2, hk.1.2⟩⟩))⟩
     have n1_ : Aside0 (Kd.R (Kd.int .i64) 3 ((w22.setCell ⟨gb252, 0, none⟩ (.slice Ao23 t245.length co23)).setCell ⟨gb252, 1, none⟩ (.slice Ao26 t248.length co26)) w.heap.size (fun k_ => some k_ ≠ (.slice Ao12 y231.length co12 : Value).ownBlock ∧ some k_ ≠ (.slice Ao20 y242.length co20 : Value).ownBlock ∧ some k_ ≠ (.slice Ao23 t245.length co23 : Value).ownBlock) (.slice Ao15 t234.length co15) t234) := ⟨zr_ (Kd.R_mono (Kd.R_far (p := ⟨gb252, 1, none⟩) (Kd.R_far (p := ⟨gb252, 0, none⟩) (Kd.R_types HO236.out BK252.out (by decide)) (fun _ hk => hk.2) (.slice Ao23 t245.length co23)) (fun _ hk => hk.2) (.slice Ao26 t248.length co26)) (fun _ hk => ⟨hk.1.1.1.2, ⟨hk.1.1.2, hk.1.2⟩⟩))⟩
     have n2_ : Aside0 (Kd.R (Kd.int .i64) 23 ((w22.setCell ⟨gb252, 0, none⟩ (.slice Ao23 t245.length co23)).setCell ⟨gb252, 1, none⟩ (.slice Ao26 t248.length co26)) w.heap.size (fun k_ => some k_ ≠ (.slice Ao26 t248.length co26 : Value).ownBlock) (.slice Ao17 t237.length co17) t237) := ⟨zr_ (Kd.R_mono (Kd.R_far (p := ⟨gb252, 1, none⟩) (Kd.R_far (p := ⟨gb252, 0, none⟩) (Kd.R_types HO239.out BK252.out (by decide)) (fun _ hk => hk.2) (.slice Ao23 t245.length co23)) (fun _ hk => hk.2) (.slice Ao26 t248.length co26)) (fun _ hk => hk.1.2))⟩
     have n3_ : Aside0 (Kd.R (Kd.int .i64) 3 ((w22.setCell ⟨gb252, 0, none⟩ (.slice Ao23 t245.length co23)).setCell ⟨gb252, 1, none⟩ (.slice Ao26 t248.length co26)) w.heap.size (fun k_ => some k_ ≠ (.slice Ao12 y231.length co12 : Value).ownBlock ∧ some k_ ≠ (.slice Ao15 t234.length co15 : Value).ownBlock ∧ some k_ ≠ (.slice Ao23 t245.length co23 : Value).ownBlock) (.slice Ao20 y242.length co20) y242) := ⟨zr_ (Kd.R_mono (Kd.R_far (p := ⟨gb252, 1, none⟩) (Kd.R_far (p := ⟨gb252, 0, none⟩) (Kd.R_types HO244.out BK252.out (by decide)) (fun _ hk => hk.2) (.slice Ao23 t245.length co23)) (fun _ hk => hk.2) (.slice Ao26 t248.length co26)) (fun _ hk => ⟨hk.1.1.1.2, ⟨hk.1.1.2, hk.1.2⟩⟩))⟩
     have n4_ : Aside0 (Kd.R (Kd.int .i64) 3 ((w22.setCell ⟨gb252, 0, none⟩ (.slice Ao23 t245.length co23)).setCell ⟨gb252, 1, none⟩ (.slice Ao26 t248.length co26)) w.heap.size (fun k_ => some k_ ≠ (.slice Ao12 y231.length co12 : Value).ownBlock ∧ some k_ ≠ (.slice Ao15 t234.length co15 : Value).ownBlock ∧ some k_ ≠ (.slice Ao20 y242.length co20 : Value).ownBlock) (.slice Ao23 t245.length co23) t245) := ⟨zr_ (Kd.R_mono (Kd.R_far (p := ⟨gb252, 1, none⟩) (Kd.R_far (p := ⟨gb252, 0, none⟩) (Kd.R_types HO247.out BK252.out (by decide)) (fun _ hk => hk.2) (.slice Ao23 t245.length co23)) (fun _ hk => hk.2) (.slice Ao26 t248.length co26)) (fun _ hk => ⟨hk.1.1.1.2, ⟨hk.1.1.2, hk.1.2⟩⟩))⟩
     have n5_ : Aside0 (Kd.R (Kd.int .i64) 23 ((w22.setCell ⟨gb252, 0, none⟩ (.slice Ao23 t245.length co23)).setCell ⟨gb252, 1, none⟩ (.slice Ao26 t248.length co26)) w.heap.size (fun k_ => some k_ ≠ (.slice Ao17 t237.length co17 : Value).ownBlock) (.slice Ao26 t248.length co26) t248) := ⟨zr_ (Kd.R_mono (Kd.R_far (p := ⟨gb252, 1, none⟩) (Kd.R_far (p := ⟨gb252, 0, none⟩) (Kd.R_types HO250.out BK252.out (by decide)) (fun _ hk => hk.2) (.slice Ao23 t245.length co23)) (fun _ hk => hk.2) (.slice Ao26 t248.length co26)) (fun _ hk => hk.1.2))⟩
     have n6_ : Aside0 (((w22.setCell ⟨gb252, 0, none⟩ (.slice Ao23 t245.length co23)).setCell ⟨gb252, 1, none⟩ (.slice Ao26 t248.length co26)).heap[gb241]? = some (.cells #[.slice Ao15 t234.length co15, .slice Ao17 t237.length co17] 27 (0, 0))) := ⟨by (with_reducible repeat (first | refine blk_drewN ?_ _ | refine blk_drew ?_ | refine blk_alloc ?_ _)); refine blk_far ?_ NB241_252.out _; (with_reducible repeat (first | refine blk_drewN ?_ _ | refine blk_drew ?_ | refine blk_alloc ?_ _)); refine blk_far ?_ NB241_252.out _; (with_reducible repeat (first | refine blk_drewN ?_ _ | refine blk_drew ?_ | refine blk_alloc ?_ _)); exact BK241.out⟩
     have n7_ : Aside0 (((w22.setCell ⟨gb252, 0, none⟩ (.slice Ao23 t245.length co23)).setCell ⟨gb252, 1, none⟩ (.slice Ao26 t248.length co26)).heap[gb252]? = some (.cells #[.slice Ao23 t245.length co23, .slice Ao26 t248.length co26] 27 (0, 0))) := ⟨by (with_reducible repeat (first | refine blk_drewN ?_ _ | refine blk_drew ?_ | refine blk_alloc ?_ _)); refine blk_put (cs := #[.slice Ao23 t245.length co23, .slice none 0 0]) ?_ 1 _ rfl; (with_reducible repeat (first | refine blk_drewN ?_ _ | refine blk_drew ?_ | refine blk_alloc ?_ _)); refine blk_put (cs := #[.slice none 0 0, .slice none 0 0]) ?_ 0 _ rfl; (with_reducible repeat (first | refine blk_drewN ?_ _ | refine blk_drew ?_ | refine blk_alloc ?_ _)); exact BK252.out⟩
     have n8_ : Aside0 (Below w.heap.size w ((w22.setCell ⟨gb252, 0, none⟩ (.slice Ao23 t245.length co23)).setCell ⟨gb252, 1, none⟩ (.slice Ao26 t248.length co26))) := ⟨zw2_ HB GE241 GE252⟩
     (try clear HO233)
     (try clear HO236)
     (try clear HO239)
     (try clear HO244)
     (try clear HO247)
     (try clear HO250)
     (try clear BK241)
     (try clear BK252)
     (try clear HB)
     generalize ((w22.setCell ⟨gb252, 0, none⟩ (.slice Ao23 t245.length co23)).setCell ⟨gb252, 1, none⟩ (.slice Ao26 t248.length co26)) = w27 at n0_ n1_ n2_ n3_ n4_ n5_ n6_ n7_ n8_ ⊢
     have HO233 := n0_
     have HO236 := n1_
     have HO239 := n2_
     have HO244 := n3_
     have HO247 := n4_
     have HO250 := n5_
     have BK241 := n6_
     have BK252 := n7_
     have HB := n8_
     clear n0_ n1_ n2_ n3_ n4_ n5_ n6_ n7_ n8_
     replace HO233 := Aside0.mk (Kd.R_drew HO233.out)
     replace HO236 := Aside0.mk (Kd.R_drew HO236.out)
     replace HO239 := Aside0.mk (Kd.R_drew HO239.out)
     replace HO244 := Aside0.mk (Kd.R_drew HO244.out)
     replace HO247 := Aside0.mk (Kd.R_drew HO247.out)
     replace HO250 := Aside0.mk (Kd.R_drew HO250.out)
     replace BK241 := Aside0.mk (blk_drew BK241.out)
     replace BK252 := Aside0.mk (blk_drew BK252.out)
     replace HB := Aside0.mk (below_drew1 HB.out)
     refine start_ (n := 23) (S := fun w' => w'.cell? ⟨gb241, 0, none⟩ = some (.slice Ao15 t234.length co15) ∧ w'.cell? ⟨gb241, 1, none⟩ = some (.slice Ao17 t237.length co17) ∧ w'.cell? ⟨gb252, 0, none⟩ = some (.slice Ao23 t245.length co23) ∧ w'.cell? ⟨gb252, 1, none⟩ = some (.slice Ao26 t248.length co26)) (ds := []) #[false, false, false, false, false, false, false, false, false, false, false, false, false, false, false, false, false, false, false, false, false, false, false] (by kernel_rfl) rfl rfl ⟨(blk_cell BK241.out 0).trans rfl, (blk_cell BK241.out 1).trans rfl, (blk_cell BK252.out 0).trans rfl, (blk_cell BK252.out 1).trans rfl⟩ (fun hHeld => ?_); refine with_tabW carousellaw6_awake.tab3 carousellaw6_awake.bits3 (fun HT_ HW_ => ?_)
     generalize w27.drew = w28 at HO233 HO236 HO239 HO244 HO247 HO250 BK241 BK252 HB hHeld ⊢
     refine zp_ 0 (some 16) (h := ?_)
     refine zp_ 1 (some 17) (h := ?_)
     refine zp_ 2 (some 18) (h := ?_)
     refine zt_ 3 (some 19) (hr := by rintro w' ⟨s0, s1, s2, s3⟩; go_simp; with_reducible rfl) (h := ?_)
     refine one_ (i := 4) (N := some 20) #[true, true, true, true, true, false, false, false, false, false, false, false, false, false, false, false, false, false, false, false, false, false, false] rfl rfl (one_of HT_.out (by kernel_rfl)) (by decide) (fun K hK => ?_)
     refine goes_ Try.func16 (by kernel_rfl) rfl #[.agg #[.slice Ao15 t234.length co15, .slice Ao17 t237.length co17]] (by rfl) rfl rfl (by (try simp only [List.map_toArray, List.map_cons, List.map_nil]); first | done | rfl | (simp only [List.length_drop, List.length_take]; rfl)) ?_
     with_reducible refine (tens_Good.calls k _ _ t234 _ _ t237 true _ ?side1 ?side2 ?side3 ?side4 A4.out).mono ?_
     (case side1 => exact zk_ ((Kd.R_reads' HO236.out).2.2))
     (case side2 => exact (Kd.R_reads' HO236.out).2.1)
     (case side3 => exact zk_ ((Kd.R_reads' HO239.out).2.2))
     (case side4 => exact (Kd.R_reads' HO239.out).2.1)
     rintro e w29 ⟨rfl, hb⟩
     refine ⟨_, rfl, ?_⟩
     replace HO233 := Aside0.mk (Kd.R_below (zr_ HO233.out) hb)
     replace HO236 := Aside0.mk (Kd.R_below (zr_ HO236.out) hb)
     replace HO239 := Aside0.mk (Kd.R_below (zr_ HO239.out) hb)
     replace HO244 := Aside0.mk (Kd.R_below (zr_ HO244.out) hb)
     replace HO247 := Aside0.mk (Kd.R_below (zr_ HO247.out) hb)
     replace HO250 := Aside0.mk (Kd.R_below (zr_ HO250.out) hb)
     replace BK241 := Aside0.mk (zl_ BK241 hb)
     replace BK252 := Aside0.mk (zl_ BK252 hb)
     replace HB := Aside0.mk (below_step (zw2_ HB GE241 GE252) hb)
     (try clear hb)
     (try clear hb2)
     (try clear hk)
     (try clear hi)
     refine hK.out _ _ ⟨(blk_cell BK241.out 0).trans rfl, (blk_cell BK241.out 1).trans rfl, (blk_cell BK252.out 0).trans rfl, (blk_cell BK252.out 1).trans rfl⟩ (fun hHeld => ?_)
     clear hK K
     refine zq_ (some 20) (h := ?_)
     refine zp_ 5 (some 21) (h := ?_)
     refine zp_ 6 (some 22) (h := ?_)
     refine zp_ 7 (some 23) (h := ?_)
     refine zt_ 8 (some 24) (hr := by rintro w' ⟨s0, s1, s2, s3⟩; go_simp; with_reducible rfl) (h := ?_)
     refine zp_ 9 (some 25) (h := ?_)
     refine zp_ 10 (some 26) (h := ?_)
     refine zp_ 11 (some 27) (h := ?_)
     refine zp_ 12 (some 28) (h := ?_)
     refine zp_ 13 (some 29) (h := ?_)
     refine zp_ 14 (some 30) (h := ?_)
     refine zp_ 15 (some 31) (h := ?_)
     refine zp_ 16 (some 32) (h := ?_)
     refine zt_ 17 (some 33) (hr := by rintro w' ⟨s0, s1, s2, s3⟩; go_simp; with_reducible rfl) (h := ?_)
     refine one_ (i := 18) (N := some 34) #[true, true, true, true, true, true, true, true, true, true, true, true, true, true, true, true, true, true, true, false, false, false, false] rfl rfl (one_of HT_.out (by kernel_rfl)) (by decide) (fun K hK => ?_)
     refine Kd.R_lit_step (Kd.int .i64) _ 23 ?hg (N := 34) ?hd (xs := ([8589934592, 8589934592, 8589934592] : List Int)) (inner := [.int .i64 8589934592, .int .i64 8589934592, .int .i64 8589934592]) (ok := fun _ => True) (okp := fun _ => True) ?hr ?hp (fun _ hk => hk) trivial (Below.refl _ _) (Nat.le_refl _) (by simp) ?_; (case hd => rfl); (case hg => rfl); (case hr => first | (go_simp; done) | (go_simp; rfl)); (case hp => exact (Reps.one (show Kd.M (Kd.int .i64) _ _ _ 8589934592 [.int .i64 8589934592] from rfl) (Reps.one (show Kd.M (Kd.int .i64) _ _ _ 8589934592 [.int .i64 8589934592] from rfl) (Reps.one (show Kd.M (Kd.int .i64) _ _ _ 8589934592 [.int .i64 8589934592] from rfl) (Reps.none _ _)))))
     intro v255 w30 ho31 hb hg_ hnew_
     clear hg_ hnew_
     (first | rw [← Ny254.out] at ho31 | (simp only [Int.reduceToNat] at ho31; rw [← Ny254.out] at ho31))
     replace HO233 := Aside0.mk (Kd.R_below (zr_ HO233.out) hb)
     replace HO236 := Aside0.mk (Kd.R_below (zr_ HO236.out) hb)
     replace HO244 := Aside0.mk (Kd.R_below (zr_ HO244.out) hb)
     replace HO247 := Aside0.mk (Kd.R_below (zr_ HO247.out) hb)
     have HO256 := Aside0.mk (Kd.R_lower (Kd.R_new' (Kd.R_new' ho31 (Kd.R_lt (zr_ HO239.out))) (Kd.R_lt (zr_ HO250.out))) (below_size (zw2_ HB GE241 GE252)))
     replace HO239 := Aside0.mk (Kd.R_elder' (zr_ HO239.out) (Kd.R_base ho31) hb)
     replace HO250 := Aside0.mk (Kd.R_elder' (zr_ HO250.out) (Kd.R_base ho31) hb)
     replace BK241 := Aside0.mk (zl_ BK241 hb)
     replace BK252 := Aside0.mk (zl_ BK252 hb)
     replace HB := Aside0.mk (below_step (zw2_ HB GE241 GE252) hb)
     clear hb ho31
     obtain ⟨Ao32, co32, eo32⟩ := Kd.R_slice HO256.out
     (first | subst eo32 | (injection eo32 with f1_ f2_ f3_; have f4_ := f1_.symm; have f5_ := f3_.symm; clear f1_ f2_ f3_; subst f4_; subst f5_))
     refine hK.out _ _ ⟨(blk_cell BK241.out 0).trans rfl, (blk_cell BK241.out 1).trans rfl, (blk_cell BK252.out 0).trans rfl, (blk_cell BK252.out 1).trans rfl⟩ (fun hHeld => ?_)
     clear hK K
     refine zq_ (some 34) (h := ?_)
     refine one_ (i := 19) (N := some 35) #[true, true, true, true, true, true, true, true, true, true, true, true, true, true, true, true, true, true, true, true, false, false, false] rfl rfl (one_of HT_.out (by kernel_rfl)) (by decide) (fun K hK => ?_)
     refine goes_ Try.func28 (by kernel_rfl) rfl #[.slice Ao32 y254.length co32] (by rfl) rfl rfl (by (try simp only [List.map_toArray, List.map_cons, List.map_nil]); first | done | rfl | (simp only [List.length_drop, List.length_take]; rfl)) ?_
     with_reducible refine (carousellaw6_row.calls (fun k_ => some k_ = (.slice Ao32 y254.length co32 : Value).ownBlock) (.slice Ao32 y254.length co32) y254 t257 t260 w _ ?side1 ?side2 A8.out).mono ?_
     (case side1 => repeat (first | (with_reducible first | exact HB.out | apply below_alloc | apply pw_below_drewN | apply below_drew1 | refine below_set ?_ GE241.out | refine below_set ?_ GE252.out) | exact HB.out))
     (case side2 => exact Kd.R_tight rfl HO256.out)
     rintro e w33 ⟨v258, v261, rfl, ho0, ho1, hb, hkp⟩
     refine ⟨_, rfl, ?_⟩
     replace BK241 := Aside0.mk (blk_kept (zb_ BK241) hkp (fun hs_ => (fun e_ => (Kd.R_ne HO256.out BK241.out (by decide)) e_) hs_))
     replace BK252 := Aside0.mk (blk_kept (zb_ BK252) hkp (fun hs_ => (fun e_ => (Kd.R_ne HO256.out BK252.out (by decide)) e_) hs_))
     have HO259 := Aside0.mk (Kd.R_mono (ok' := fun k_ => some k_ ≠ (.slice Ao12 y231.length co12 : Value).ownBlock ∧ some k_ ≠ (.slice Ao15 t234.length co15 : Value).ownBlock ∧ some k_ ≠ (.slice Ao20 y242.length co20 : Value).ownBlock ∧ some k_ ≠ (.slice Ao23 t245.length co23 : Value).ownBlock) ho0 (fun k_ hk_ => ⟨Or.elim hk_ (fun hs_ => fun e_ => ((((Kd.R_apart' HO233.out (Kd.R_typed HO256.out) (by decide))).1 k_ e_.symm).2) hs_) (fun hn_ => (Kd.fresh' (Kd.R_lt (zr_ HO233.out)) k_ hn_)), Or.elim hk_ (fun hs_ => fun e_ => ((((Kd.R_apart' HO236.out (Kd.R_typed HO256.out) (by decide))).1 k_ e_.symm).2) hs_) (fun hn_ => (Kd.fresh' (Kd.R_lt (zr_ HO236.out)) k_ hn_)), Or.elim hk_ (fun hs_ => fun e_ => ((((Kd.R_apart' HO244.out (Kd.R_typed HO256.out) (by decide))).1 k_ e_.symm).2) hs_) (fun hn_ => (Kd.fresh' (Kd.R_lt (zr_ HO244.out)) k_ hn_)), Or.elim hk_ (fun hs_ => fun e_ => ((((Kd.R_apart' HO247.out (Kd.R_typed HO256.out) (by decide))).1 k_ e_.symm).2) hs_) (fun hn_ => (Kd.fresh' (Kd.R_lt (zr_ HO247.out)) k_ hn_))⟩))
     replace HO233 := Aside0.mk (Kd.R_mono (ok' := fun k_ => some k_ ≠ (.slice Ao15 t234.length co15 : Value).ownBlock ∧ some k_ ≠ (.slice Ao20 y242.length co20 : Value).ownBlock ∧ some k_ ≠ (.slice Ao23 t245.length co23 : Value).ownBlock ∧ some k_ ≠ (v258 : Value).ownBlock) (Kd.R_keptB ((Kd.R_apart' HO233.out (Kd.R_typed HO256.out) (by decide))) hkp (fun k_ hk_ hs_ => (hk_.2) hs_)) (fun k_ hk_ => ⟨hk_.1.1.1, hk_.1.1.2.1, hk_.1.1.2.2, fun e_ => Or.elim (ho0.1 k_ e_.symm) (fun hs_ => hk_.2.1 hs_) (fun hn_ => Nat.not_le.2 hk_.2.2 hn_)⟩))
     replace HO236 := Aside0.mk (Kd.R_mono (ok' := fun k_ => some k_ ≠ (.slice Ao12 y231.length co12 : Value).ownBlock ∧ some k_ ≠ (.slice Ao20 y242.length co20 : Value).ownBlock ∧ some k_ ≠ (.slice Ao23 t245.length co23 : Value).ownBlock ∧ some k_ ≠ (v258 : Value).ownBlock) (Kd.R_keptB ((Kd.R_apart' HO236.out (Kd.R_typed HO256.out) (by decide))) hkp (fun k_ hk_ hs_ => (hk_.2) hs_)) (fun k_ hk_ => ⟨hk_.1.1.1, hk_.1.1.2.1, hk_.1.1.2.2, fun e_ => Or.elim (ho0.1 k_ e_.symm) (fun hs_ => hk_.2.1 hs_) (fun hn_ => Nat.not_le.2 hk_.2.2 hn_)⟩))
     replace HO244 := Aside0.mk (Kd.R_mono (ok' := fun k_ => some k_ ≠ (.slice Ao12 y231.length co12 : Value).ownBlock ∧ some k_ ≠ (.slice Ao15 t234.length co15 : Value).ownBlock ∧ some k_ ≠ (.slice Ao23 t245.length co23 : Value).ownBlock ∧ some k_ ≠ (v258 : Value).ownBlock) (Kd.R_keptB ((Kd.R_apart' HO244.out (Kd.R_typed HO256.out) (by decide))) hkp (fun k_ hk_ hs_ => (hk_.2) hs_)) (fun k_ hk_ => ⟨hk_.1.1.1, hk_.1.1.2.1, hk_.1.1.2.2, fun e_ => Or.elim (ho0.1 k_ e_.symm) (fun hs_ => hk_.2.1 hs_) (fun hn_ => Nat.not_le.2 hk_.2.2 hn_)⟩))
     replace HO247 := Aside0.mk (Kd.R_mono (ok' := fun k_ => some k_ ≠ (.slice Ao12 y231.length co12 : Value).ownBlock ∧ some k_ ≠ (.slice Ao15 t234.length co15 : Value).ownBlock ∧ some k_ ≠ (.slice Ao20 y242.length co20 : Value).ownBlock ∧ some k_ ≠ (v258 : Value).ownBlock) (Kd.R_keptB ((Kd.R_apart' HO247.out (Kd.R_typed HO256.out) (by decide))) hkp (fun k_ hk_ hs_ => (hk_.2) hs_)) (fun k_ hk_ => ⟨hk_.1.1.1, hk_.1.1.2.1, hk_.1.1.2.2, fun e_ => Or.elim (ho0.1 k_ e_.symm) (fun hs_ => hk_.2.1 hs_) (fun hn_ => Nat.not_le.2 hk_.2.2 hn_)⟩))
     have HO262 := Aside0.mk (Kd.R_mono (ok' := fun k_ => some k_ ≠ (.slice Ao17 t237.length co17 : Value).ownBlock ∧ some k_ ≠ (.slice Ao26 t248.length co26 : Value).ownBlock) ho1 (fun k_ hk_ => ⟨Or.elim hk_ (fun hs_ => fun e_ => (((HO239.out).1 k_ e_.symm).2) hs_) (fun hn_ => (Kd.fresh' (Kd.R_lt (zr_ HO239.out)) k_ hn_)), Or.elim hk_ (fun hs_ => fun e_ => (((HO250.out).1 k_ e_.symm).2) hs_) (fun hn_ => (Kd.fresh' (Kd.R_lt (zr_ HO250.out)) k_ hn_))⟩))
     replace HO239 := Aside0.mk (Kd.R_mono (ok' := fun k_ => some k_ ≠ (.slice Ao26 t248.length co26 : Value).ownBlock ∧ some k_ ≠ (v261 : Value).ownBlock) (Kd.R_keptB (HO239.out) hkp (fun k_ hk_ hs_ => (hk_.2) hs_)) (fun k_ hk_ => ⟨hk_.1.1, fun e_ => Or.elim (ho1.1 k_ e_.symm) (fun hs_ => hk_.2.1 hs_) (fun hn_ => Nat.not_le.2 hk_.2.2 hn_)⟩))
     replace HO250 := Aside0.mk (Kd.R_mono (ok' := fun k_ => some k_ ≠ (.slice Ao17 t237.length co17 : Value).ownBlock ∧ some k_ ≠ (v261 : Value).ownBlock) (Kd.R_keptB (HO250.out) hkp (fun k_ hk_ hs_ => (hk_.2) hs_)) (fun k_ hk_ => ⟨hk_.1.1, fun e_ => Or.elim (ho1.1 k_ e_.symm) (fun hs_ => hk_.2.1 hs_) (fun hn_ => Nat.not_le.2 hk_.2.2 hn_)⟩))
     replace HB := Aside0.mk (hb)
     clear HO256
     (try clear hb)
     (try clear hkp)
     (try clear ho0)
     (try clear ho1)
     obtain ⟨Ao34, co34, eo34⟩ := Kd.R_slice HO259.out
     (first | subst eo34 | (injection eo34 with f1_ f2_ f3_; have f4_ := f1_.symm; have f5_ := f3_.symm; clear f1_ f2_ f3_; subst f4_; subst f5_))
     obtain ⟨Ao35, co35, eo35⟩ := Kd.R_slice HO262.out
     (first | subst eo35 | (injection eo35 with f1_ f2_ f3_; have f4_ := f1_.symm; have f5_ := f3_.symm; clear f1_ f2_ f3_; subst f4_; subst f5_))
     refine hK.out _ _ ⟨(blk_cell BK241.out 0).trans rfl, (blk_cell BK241.out 1).trans rfl, (blk_cell BK252.out 0).trans rfl, (blk_cell BK252.out 1).trans rfl⟩ (fun hHeld => ?_)
     clear hK K
     refine zq_ (some 35) (h := ?_)
     refine one_ (i := 20) (N := some 36) #[true, true, true, true, true, true, true, true, true, true, true, true, true, true, true, true, true, true, true, true, true, false, false] rfl rfl (one_of HT_.out (by kernel_rfl)) (by decide) (fun K hK => ?_)
     refine goes_ Try.func21 (by kernel_rfl) rfl #[.agg #[.slice Ao23 t245.length co23, .slice Ao26 t248.length co26], .agg #[.slice Ao34 t257.length co34, .slice Ao35 t260.length co35]] (by rfl) rfl rfl (by (try simp only [List.map_toArray, List.map_cons, List.map_nil]); first | done | rfl | (simp only [List.length_drop, List.length_take]; rfl)) ?_
     with_reducible refine (tens_Same.calls k _ _ t245 _ _ t248 _ _ t257 _ _ t260 t263 _ ?side1 ?side2 ?side3 ?side4 ?side5 ?side6 ?side7 ?side8 A9.out).mono ?_
     (case side1 => exact zk_ ((Kd.R_reads' HO247.out).2.2))
     (case side2 => exact (Kd.R_reads' HO247.out).2.1)
     (case side3 => exact zk_ ((Kd.R_reads' HO250.out).2.2))
     (case side4 => exact (Kd.R_reads' HO250.out).2.1)
     (case side5 => exact zk_ ((Kd.R_reads' HO259.out).2.2))
     (case side6 => exact (Kd.R_reads' HO259.out).2.1)
     (case side7 => exact zk_ ((Kd.R_reads' HO262.out).2.2))
     (case side8 => exact (Kd.R_reads' HO262.out).2.1)
     rintro e w36 ⟨rfl, hb⟩
     refine ⟨_, rfl, ?_⟩
     replace HO233 := Aside0.mk (Kd.R_below (zr_ HO233.out) hb)
     replace HO236 := Aside0.mk (Kd.R_below (zr_ HO236.out) hb)
     replace HO239 := Aside0.mk (Kd.R_below (zr_ HO239.out) hb)
     replace HO244 := Aside0.mk (Kd.R_below (zr_ HO244.out) hb)
     replace HO247 := Aside0.mk (Kd.R_below (zr_ HO247.out) hb)
     replace HO250 := Aside0.mk (Kd.R_below (zr_ HO250.out) hb)
     replace HO259 := Aside0.mk (Kd.R_below (zr_ HO259.out) hb)
     replace HO262 := Aside0.mk (Kd.R_below (zr_ HO262.out) hb)
     replace BK241 := Aside0.mk (zl_ BK241 hb)
     replace BK252 := Aside0.mk (zl_ BK252 hb)
     replace HB := Aside0.mk (below_step (zw2_ HB GE241 GE252) hb)
     (try clear hb)
     (try clear hb2)
     (try clear hk)
     (try clear hi)
     refine hK.out _ _ ⟨(blk_cell BK241.out 0).trans rfl, (blk_cell BK241.out 1).trans rfl, (blk_cell BK252.out 0).trans rfl, (blk_cell BK252.out 1).trans rfl⟩ (fun hHeld => ?_)
     clear hK K
     refine zq_ (some 36) (h := ?_)
     refine zp_ 21 (some 37) (h := ?_)
     refine zp_ 22 (some 0) (h := ?_)
     refine done_ (done_of HT_.out (by kernel_rfl)) ?_
     try go_wp2
     go_ret
     exact ⟨by first | rfl | (simp [errW_none, errW_some] <;> rfl) | (simp [*, errW_none, errW_some] <;> rfl), zw2_ HB GE241 GE252⟩
    ·rw [if_neg c7] at H
     have c7b0 : (t251 == 0) = false := beq_eq_false_iff_ne.mpr c7
     have c7b1 : (t251 != 0) = true := bne_iff_ne.mpr c7
     exact absurd H (by simp)
   ·rw [if_neg c6] at H
    have c6b0 : ((t237.length : Int) == 6) = false := beq_eq_false_iff_ne.mpr c6
    have c6b1 : ((t237.length : Int) != 6) = true := bne_iff_ne.mpr c6
    exact absurd H (by simp)
  ·replace c5 := Bool.eq_false_iff.mpr c5
   subst c5
   have H1 : (none) = some r := by rw [if_neg (show ¬ (false = true) by decide)] at H; exact H
   clear H
   have H := H1
   clear H1
   exact absurd H (by simp)
 ·rw [if_neg c3] at H
  have c3b0 : (t240 == 0) = false := beq_eq_false_iff_ne.mpr c3
  have c3b1 : (t240 != 0) = true := bne_iff_ne.mpr c3
  exact absurd H (by simp)

/-! ### carousellaw6_great: function 17 -/
def carousellaw6_great.f (l0_0 : List Int) (l0_1 : List Int) (a1 : Int) : Option (Bool) := if (l0_0.length : Int) > 10 then (some true) else (some (decide ((l0_1.length : Int) > a1)))
set_option maxHeartbeats 8000000 in
set_option maxRecDepth 100000 in
theorem carousellaw6_great.calls (A0_0 : Option Addr) (c0_0 : Nat) (l0_0 : List Int) (A0_1 : Option Addr) (c0_1 : Nat) (l0_1 : List Int) (a1 : Int) (r : Bool) (w : World) (hr0_0 : Kd.C (Kd.int .i64) w A0_0 l0_0.length l0_0) (hc0_0 : l0_0.length ≤ c0_0) (hr0_1 : Kd.C (Kd.int .i64) w A0_1 l0_1.length l0_1) (hc0_1 : l0_1.length ≤ c0_1) (h : carousellaw6_great.f l0_0 l0_1 a1 = some r) :
  Calls Try.prog 17 #[.agg #[.slice A0_0 l0_0.length c0_0, .slice A0_1 l0_1.length c0_1], .int .i64 a1] w fun e w' => e = .returned (.bool r) ∧ Below w.heap.size w w' := by
 have hu27 := Try.underlying27
 have HR0_0 := Aside0.mk hr0_0
 have HC0_0 := Aside0.mk hc0_0
 clear hr0_0 hc0_0
 have HR0_1 := Aside0.mk hr0_1
 have HC0_1 := Aside0.mk hc0_1
 clear hr0_1 hc0_1
 have HB := Aside0.mk (Below.refl w.heap.size w)
 have H : (if (l0_0.length : Int) > 10 then (some true) else (some (decide ((l0_1.length : Int) > a1)))) = some r := h
 clear h
 by_cases c3 : (l0_0.length : Int) > 10
 ·rw [if_pos c3] at H
  have c3b0 : decide (10 < (l0_0.length : Int)) = true := decide_eq_true c3
  have c3b1 : decide (10 < l0_0.length) = true := decide_eq_true (by omega)
  clear c3
  obtain rfl := Option.some.inj H
  go_enter Try.func17, Try.ntmps17
  go_wp2_with (first | ((with_reducible refine gate_dst (N := 2) rfl ?_); (try (refine gate_guard (by rfl) ?_; dsimp only)); refine box_event ?hg (N := 2) ?hd (cs := #[.slice A0_0 l0_0.length c0_0, .slice A0_1 l0_1.length c0_1]) (t := 27) ?hr ?_; (case hd => rfl); (case hg => rfl); (case hr => first | (go_simp; done) | (go_simp; rfl)); intro gb264 hg w4 hbox hb; have BK264 := Aside0.mk (hbox); have GW264 := Aside0.mk (zs_ hg (zw0_ HB)); have GE264 := Aside0.mk (zs_ hg (zw0_ HB)); replace HB := Aside0.mk (below_step (zw0_ HB) hb); clear hb hbox hg; have hcz5_0 := zx_ (v := .slice A0_0 l0_0.length c0_0) BK264 0; have hcz5_1 := zx_ (v := .slice A0_1 l0_1.length c0_1) BK264 1; have hfz5_0 := blk_frozen BK264.out 0; have hfz5_1 := blk_frozen BK264.out 1))
  go_ret
  exact ⟨by first | rfl | (simp [errW_none, errW_some] <;> rfl) | (simp [*, errW_none, errW_some] <;> rfl), zw1_ HB GE264⟩
 ·rw [if_neg c3] at H
  have c3b0 : decide (10 < (l0_0.length : Int)) = false := decide_eq_false c3
  have c3b1 : decide (10 < l0_0.length) = false := decide_eq_false (by omega)
  clear c3
  obtain rfl := Option.some.inj H
  go_enter Try.func17, Try.ntmps17
  go_wp2_with (first | ((with_reducible refine gate_dst (N := 2) rfl ?_); (try (refine gate_guard (by rfl) ?_; dsimp only)); refine box_event ?hg (N := 2) ?hd (cs := #[.slice A0_0 l0_0.length c0_0, .slice A0_1 l0_1.length c0_1]) (t := 27) ?hr ?_; (case hd => rfl); (case hg => rfl); (case hr => first | (go_simp; done) | (go_simp; rfl)); intro gb264 hg w6 hbox hb; have BK264 := Aside0.mk (hbox); have GW264 := Aside0.mk (zs_ hg (zw0_ HB)); have GE264 := Aside0.mk (zs_ hg (zw0_ HB)); replace HB := Aside0.mk (below_step (zw0_ HB) hb); clear hb hbox hg; have hcz7_0 := zx_ (v := .slice A0_0 l0_0.length c0_0) BK264 0; have hcz7_1 := zx_ (v := .slice A0_1 l0_1.length c0_1) BK264 1; have hfz7_0 := blk_frozen BK264.out 0; have hfz7_1 := blk_frozen BK264.out 1))
  go_ret
  exact ⟨by first | rfl | (simp [errW_none, errW_some] <;> rfl) | (simp [*, errW_none, errW_some] <;> rfl), zw1_ HB GE264⟩

/-! ### carouselref5_Good: function 13 -/
mutual
def carouselref5_Good.l0 : Nat → List Int → Int → Int → Option (Bool)
 | 0, _, _, _ => none
 | k + 1, x0, x3, x4 => if x4 < (x0.length : Int) then (if 0 ≤ x4 then (if (rd x0 x4) < 1 then (carouselref5_Good.j1 k x0 x3 x4 true) else (carouselref5_Good.j1 k x0 x3 x4 (decide ((rd x0 x4) > 4096)))) else (none)) else (some true)
def carouselref5_Good.j1 : Nat → List Int → Int → Int → Bool → Option (Bool)
 | 0, _, _, _, _ => none
 | k + 1, x0, x3, x4, x25 => if x25 = true then (some false) else (if 0 ≤ x4 then (if x4 < (x0.length : Int) then (if (wrap64 (x3 * (rd x0 x4))) > 4096 then (some false) else (carouselref5_Good.l0 k x0 (wrap64 (x3 * (rd x0 x4))) (wrap64 (x4 + 1)))) else (none)) else (none))
end
def carouselref5_Good.f (k : Nat) (l0 : List Int) : Option (Bool) := if (l0.length : Int) > 4 then (some false) else (carouselref5_Good.l0 k l0 1 0)
theorem carouselref5_Good.mono_l : ∀ k, (∀ y0 y1 y2, LeO (carouselref5_Good.l0 k y0 y1 y2) (carouselref5_Good.l0 (k + 1) y0 y1 y2)) ∧ (∀ y0 y1 y2 y3, LeO (carouselref5_Good.j1 k y0 y1 y2 y3) (carouselref5_Good.j1 (k + 1) y0 y1 y2 y3))
 | 0 => ⟨fun _ _ _ r h => by simp [carouselref5_Good.l0] at h, fun _ _ _ _ r h => by simp [carouselref5_Good.j1] at h⟩
 | k + 1 => by
  obtain ⟨ih0, ih1⟩ := carouselref5_Good.mono_l k
  refine ⟨?_, ?_⟩
  ·intro y0 y1 y2
   unfold carouselref5_Good.l0
   repeat' first
   | (with_reducible exact ih0 _ _ _)
   | (with_reducible exact ih1 _ _ _ _)
   | (with_reducible exact LeO.refl _)
   | (with_reducible exact LeO.none _)
   | (with_reducible refine LeO.ite ?_ ?_)
   | (with_reducible refine LeO.bind ?_ (fun _ => ?_))
   | exact ih0 _ _ _
   | exact ih1 _ _ _ _
   | exact LeO.none _
   | refine LeO.ite ?_ ?_
   | refine LeO.bind ?_ (fun _ => ?_)
  ·intro y0 y1 y2 y3
   unfold carouselref5_Good.j1
   repeat' first
   | (with_reducible exact ih0 _ _ _)
   | (with_reducible exact ih1 _ _ _ _)
   | (with_reducible exact LeO.refl _)
   | (with_reducible exact LeO.none _)
   | (with_reducible refine LeO.ite ?_ ?_)
   | (with_reducible refine LeO.bind ?_ (fun _ => ?_))
   | exact ih0 _ _ _
   | exact ih1 _ _ _ _
   | exact LeO.none _
   | refine LeO.ite ?_ ?_
   | refine LeO.bind ?_ (fun _ => ?_)
theorem carouselref5_Good.mono : ∀ a0 k, LeO (carouselref5_Good.f k a0) (carouselref5_Good.f (k + 1) a0) := by
 intro a0 k
 obtain ⟨ih0, ih1⟩ := carouselref5_Good.mono_l k
 unfold carouselref5_Good.f
 repeat' first
   | (with_reducible exact ih0 _ _ _)
   | (with_reducible exact ih1 _ _ _ _)
   | (with_reducible exact LeO.refl _)
   | (with_reducible exact LeO.none _)
   | (with_reducible refine LeO.ite ?_ ?_)
   | (with_reducible refine LeO.bind ?_ (fun _ => ?_))
   | exact ih0 _ _ _
   | exact ih1 _ _ _ _
   | exact LeO.none _
   | refine LeO.ite ?_ ?_
   | refine LeO.bind ?_ (fun _ => ?_)
set_option maxHeartbeats 8000000 in
set_option maxRecDepth 100000 in
theorem carouselref5_Good.calls (k : Nat) (A0 : Option Addr) (c0 : Nat) (l0 : List Int) (r : Bool) (w : World) (hr0 : Kd.C (Kd.int .i64) w A0 l0.length l0) (hc0 : l0.length ≤ c0) (h : carouselref5_Good.f k l0 = some r) :
  Calls Try.prog 13 #[.slice A0 l0.length c0] w fun e w' => e = .returned (.bool r) ∧ Drawn0 w w' := by
 have HR0 := Aside0.mk hr0
 have HC0 := Aside0.mk hc0
 clear hr0 hc0
 have H : (if (l0.length : Int) > 4 then (some false) else (carouselref5_Good.l0 k l0 1 0)) = some r := h
 clear h
 by_cases c2 : (l0.length : Int) > 4
 ·rw [if_pos c2] at H
  have c2b0 : decide (4 < (l0.length : Int)) = true := decide_eq_true c2
  have c2b1 : decide (4 < l0.length) = true := decide_eq_true (by omega)
  clear c2
  obtain rfl := Option.some.inj H
  go_enter Try.func13, Try.ntmps13
  go_wp2
  go_ret
  exact ⟨by first | rfl | (simp; done) | (simp [*]; done), by repeat (first | exact Drawn0.refl _ | apply Drawn0.step)⟩
 ·rw [if_neg c2] at H
  have c2b0 : decide (4 < (l0.length : Int)) = false := decide_eq_false c2
  have c2b1 : decide (4 < l0.length) = false := decide_eq_false (by omega)
  clear c2
  have H' := Aside0.mk H
  clear H
  go_enter Try.func13, Try.ntmps13
  go_wp2
  go_loopg [3, 4] k (fun kq v3 v4 w' => ∃ (x3_1 : Int) (x4_1 : Int), v3 = .int .i64 x3_1 ∧ v4 = .int .i64 x4_1 ∧ Aside0 (carouselref5_Good.l0 kq l0 x3_1 x4_1 = some r) ∧ Aside0 (kq ≤ k) ∧ Drawn0 w w')
  case atStart => exact ⟨(1), (0), (by first | rfl | (simp; done) | (simp [*]; done)), (by first | rfl | (simp; done) | (simp [*]; done)), H', ⟨Nat.le_refl _⟩, by repeat (first | exact Drawn0.refl _ | apply Drawn0.step)⟩
  case round =>
   clear H'
   try clear c1
   try clear c2
   try clear c2b0
   try clear c2b1
   try clear p2
   obtain ⟨x3_1, x4_1, rfl, rfl, HA, HK1, ⟨m1, rfl⟩⟩ := hrel
   cases gk with
   | zero => exact absurd HA.out (by simp [carouselref5_Good.l0])
   | succ k1 =>
    have H := HA.out
    clear HA
    simp only [carouselref5_Good.l0] at H
    by_cases c3 : x4_1 < (l0.length : Int)
    ·rw [if_pos c3] at H
     have c3b0 : decide (x4_1 < (l0.length : Int)) = true := decide_eq_true c3
     clear c3
     have HC4 := Aside0.mk H
     clear H
     go_upto_region 7 with (fail)
     go_cut [25] (fun v25 wc => ∃ (kq : Nat) (x25_3 : Bool), v25 = .bool x25_3 ∧ Aside0 (carouselref5_Good.j1 kq l0 x3_1 x4_1 x25_3 = some r) ∧ Aside0 (kq ≤ k1) ∧ Drawn0 w wc)
     case first =>
      have H := HC4.out
      clear HC4
      by_cases c5 : 0 ≤ x4_1
      ·rw [if_pos c5] at H
       have c5b0 : decide (0 ≤ x4_1) = true := decide_eq_true c5
       clear c5
       (first | rw [c5b0] | (simp only [i64_w, i32_w]; rw [c5b0]) | skip)
       by_cases c6 : (rd l0 x4_1) < 1
       ·rw [if_pos c6] at H
        have c6b0 : decide ((rd l0 x4_1) < 1) = true := decide_eq_true c6
        clear c6
        have H' := Aside0.mk H
        clear H
        have p265 : 0 ≤ (x4_1 : Int) := of_decide_eq_true (by first | (with_reducible assumption) | assumption)
        have q265 : x4_1 < (l0.length : Int) := of_decide_eq_true (by first | (with_reducible assumption) | assumption)
        obtain ⟨ad265, e265, hx265_0⟩ := Kd.at_int HR0.out x4_1 p265 q265
        cases e265
        replace p265 := eq_true p265
        replace q265 := eq_true q265
        go_wp2
        go_meet
        case rel => exact ⟨_, (true), (by first | rfl | (simp; done) | (simp [*]; done)), H', ⟨by have := HK1.out; first | omega | exact Nat.le_refl _⟩, by repeat (first | exact Drawn0.refl _ | apply Drawn0.step)⟩
       ·rw [if_neg c6] at H
        have c6b0 : decide ((rd l0 x4_1) < 1) = false := decide_eq_false c6
        clear c6
        have H' := Aside0.mk H
        clear H
        have p265 : 0 ≤ (x4_1 : Int) := of_decide_eq_true (by first | (with_reducible assumption) | assumption)
        have q265 : x4_1 < (l0.length : Int) := of_decide_eq_true (by first | (with_reducible assumption) | assumption)
        obtain ⟨ad265, e265, hx265_0⟩ := Kd.at_int HR0.out x4_1 p265 q265
        cases e265
        replace p265 := eq_true p265
        replace q265 := eq_true q265
        have p266 : 0 ≤ (x4_1 : Int) := of_decide_eq_true (by first | (with_reducible assumption) | assumption)
        have q266 : x4_1 < (l0.length : Int) := of_decide_eq_true (by first | (with_reducible assumption) | assumption)
        obtain ⟨ad266, e266, hx266_0⟩ := Kd.at_int HR0.out x4_1 p266 q266
        obtain rfl : ad265 = ad266 := (by injection e266)
        replace p266 := eq_true p266
        replace q266 := eq_true q266
        go_wp2
        go_meet
        case rel => exact ⟨_, (decide ((rd l0 x4_1) > 4096)), (by first | rfl | (simp; done) | (simp [*]; done)), H', ⟨by have := HK1.out; first | omega | exact Nat.le_refl _⟩, by repeat (first | exact Drawn0.refl _ | apply Drawn0.step)⟩
      ·rw [if_neg c5] at H
       exact absurd H (by simp)
     case rest =>
      clear HC4
      try clear c1
      try clear c2
      try clear c2b0
      try clear c2b1
      try clear p2
      try clear q2
      try clear hx2
      try clear c3
      try clear c3b0
      try clear c5
      try clear c5b0
      try clear c6
      try clear c6b0
      try clear hx265_0
      try clear hx266_0
      try clear p2
      try clear p265
      try clear p266
      try clear q265
      try clear q266
      obtain ⟨kq, x25_3, rfl, HA, HJ3, ⟨mc3, rfl⟩⟩ := hcut
      cases kq with
      | zero => exact absurd HA.out (by simp [carouselref5_Good.j1])
      | succ kj3 =>
       have H := HA.out
       clear HA
       simp only [carouselref5_Good.j1] at H
       by_cases c7 : x25_3 = true
       ·subst c7
        have H1 : (some false) = some r := by rw [if_pos rfl] at H; exact H
        clear H
        have H := H1
        clear H1
        obtain rfl := Option.some.inj H
        go_wp2
        go_ret
        exact ⟨by first | rfl | (simp; done) | (simp [*]; done), by repeat (first | exact Drawn0.refl _ | apply Drawn0.step)⟩
       ·replace c7 := Bool.eq_false_iff.mpr c7
        subst c7
        have H1 := H
        rw [if_neg (show ¬ (false = true) by decide)] at H1
        clear H
        have H := H1
        clear H1
        by_cases c8 : 0 ≤ x4_1
        ·rw [if_pos c8] at H
         have c8b0 : decide (0 ≤ x4_1) = true := decide_eq_true c8
         clear c8
         by_cases c9 : x4_1 < (l0.length : Int)
         ·rw [if_pos c9] at H
          have c9b0 : decide (x4_1 < (l0.length : Int)) = true := decide_eq_true c9
          clear c9
          by_cases c10 : (wrap64 (x3_1 * (rd l0 x4_1))) > 4096
          ·rw [if_pos c10] at H
           have c10b0 : decide (4096 < (wrap64 (x3_1 * (rd l0 x4_1)))) = true := decide_eq_true c10
           clear c10
           obtain rfl := Option.some.inj H
           have p267 : 0 ≤ (x4_1 : Int) := of_decide_eq_true (by first | (with_reducible assumption) | assumption)
           have q267 : x4_1 < (l0.length : Int) := of_decide_eq_true (by first | (with_reducible assumption) | assumption)
           obtain ⟨ad267, e267, hx267_0⟩ := Kd.at_int HR0.out x4_1 p267 q267
           cases e267
           replace p267 := eq_true p267
           replace q267 := eq_true q267
           go_wp2
           go_ret
           exact ⟨by first | rfl | (simp; done) | (simp [*]; done), by repeat (first | exact Drawn0.refl _ | apply Drawn0.step)⟩
          ·rw [if_neg c10] at H
           have c10b0 : decide (4096 < (wrap64 (x3_1 * (rd l0 x4_1)))) = false := decide_eq_false c10
           clear c10
           have H' := Aside0.mk H
           clear H
           have p267 : 0 ≤ (x4_1 : Int) := of_decide_eq_true (by first | (with_reducible assumption) | assumption)
           have q267 : x4_1 < (l0.length : Int) := of_decide_eq_true (by first | (with_reducible assumption) | assumption)
           obtain ⟨ad267, e267, hx267_0⟩ := Kd.at_int HR0.out x4_1 p267 q267
           cases e267
           replace p267 := eq_true p267
           replace q267 := eq_true q267
           go_wp2
           go_roundg kj3
           case measure => have := HK1.out; have := HJ3.out; omega
           case rel => exact ⟨(wrap64 (x3_1 * (rd l0 x4_1))), (wrap64 (x4_1 + 1)), (by first | rfl | (simp; done) | (simp [*]; done)), (by first | rfl | (simp; done) | (simp [*]; done)), H', ⟨by have := HK1.out; have := HJ3.out; omega⟩, by repeat (first | exact Drawn0.refl _ | apply Drawn0.step)⟩
         ·rw [if_neg c9] at H
          exact absurd H (by simp)
        ·rw [if_neg c8] at H
         exact absurd H (by simp)
    ·rw [if_neg c3] at H
     have c3b0 : decide (x4_1 < (l0.length : Int)) = false := decide_eq_false c3
     clear c3
     obtain rfl := Option.some.inj H
     go_wp2
     go_ret
     exact ⟨by first | rfl | (simp; done) | (simp [*]; done), by repeat (first | exact Drawn0.refl _ | apply Drawn0.step)⟩

end Go.Proofs.Ytbdhabpplidgfaa.PTensKeeps
