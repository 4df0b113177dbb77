/- The functions that the law TensKnown reaches, as Lean functions, and that each call of the Go function does what its Lean function says, wherever that one answers. Written by a program of mine over the print of the kit; Lean checks it. -/
import Derived.Test.YtbdhabpplidgfaaPTensKnownx0
import Derived.Test.YtbdhabpplidgfaaPTensKnownx1
import Derived.Test.YtbdhabpplidgfaaPTensKnownx2
import Derived.Test.YtbdhabpplidgfaaPTensKnownx5
namespace Go.Proofs.Ytbdhabpplidgfaa.PTensKnown
open Go.RowKit Go.Proofs.YtbdhabpplidgfaaW.PrintWords Go.Proofs.YtbdhabpplidgfaaW.PrintLast Go.Proofs.YtbdhabpplidgfaaW.PrintMore
attribute [local go_sem] max2_int min2_int max_two min_two max_three min_three max_four min_four   -- for this text's walks alone
set_option linter.unusedVariables false
set_option linter.unusedSimpArgs false

/-! ### carousellaw6_awake: function 11 -/
def carousellaw6_awake.f (k : Nat)  : Option (Bool) := (tens_New.f k (([2, 3] : List Int)) 4294967296).bind fun bt234 => ((tens_Fold.f k bt234.1 bt234.2.1 (([3] : List Int))).bind fun bt245 => (if bt234.2.2 = 0 then ((tens_Good.f k bt234.1 bt234.2.1).bind fun t253 => (if t253 = true then (if (bt234.2.1.length : Int) = 6 then (if bt245.2.2 = 0 then ((carousellaw6_row.f (([8589934592, 8589934592, 8589934592] : List Int))).bind fun bt257 => ((tens_Same.f k bt245.1 bt245.2.1 bt257.1 bt257.2).bind fun t263 => (some t263))) else (none)) else (none)) else (none))) else (none)))
theorem carousellaw6_awake.mono : ∀ k, LeO (carousellaw6_awake.f k ) (carousellaw6_awake.f (k + 1) ) := by
 intro  k
 unfold carousellaw6_awake.f
 repeat' first
   | (with_reducible exact tens_Fold.mono _ _ _ _)
   | (with_reducible exact tens_Good.mono _ _ _)
   | (with_reducible exact tens_New.mono _ _ _)
   | (with_reducible exact tens_Same.mono _ _ _ _ _)
   | (with_reducible exact LeO.refl _)
   | (with_reducible exact LeO.none _)
   | (with_reducible refine LeO.ite ?_ ?_)
   | (with_reducible refine LeO.bind ?_ (fun _ => ?_))
   | exact tens_Fold.mono _ _ _ _
   | exact tens_Good.mono _ _ _
   | exact tens_New.mono _ _ _
   | exact tens_Same.mono _ _ _ _ _
   | exact LeO.none _
   | refine LeO.ite ?_ ?_
   | refine LeO.bind ?_ (fun _ => ?_)
def carousellaw6_awake.T3 : Bool × List (List Nat × List Nat) := (true, [([], []), ([0], [0]), ([1], [1]), ([2], [2]), ([3, 2, 2], [2, 3]), ([2, 4], [2, 4]), ([5, 4], [5]), ([6], [6]), ([7, 6], [6, 7]), ([8, 6], [6, 8]), ([9, 6], [6, 9]), ([6, 10], [6, 10]), ([11, 6], [11]), ([12], [12]), ([13, 12], [12, 13]), ([12, 14], [12, 14]), ([15, 12], [15]), ([16], [16]), ([16], [16]), ([18, 16, 16], [16, 18]), ([17, 19, 19, 16], [16, 17, 19]), ([16, 20], [16, 20]), ([21, 20, 0, 1, 2, 3, 4, 5, 6, 7, 8, 9, 10, 11, 12, 13, 14, 15, 16, 17, 18, 19, 20, 21], [21])])
def carousellaw6_awake.B3 : List Nat := [0, 1, 3, 7, 15, 31, 63, 127, 255, 511, 1023, 2047, 4095, 8191, 16383, 32767, 65535, 131071, 131071, 393215, 1048575, 2097151, 4194303]
theorem carousellaw6_awake.tab3 : rtab .any (opsOf Try.f11 3) = carousellaw6_awake.T3 := by kernel_rfl
theorem carousellaw6_awake.bits3 : waitsOk carousellaw6_awake.T3.2 carousellaw6_awake.B3 = true := by kernel_rfl
set_option maxHeartbeats 8000000 in
set_option maxRecDepth 100000 in
theorem carousellaw6_awake.calls (k : Nat)  (r : Bool) (w : World) (h : carousellaw6_awake.f k  = some r) :
  Calls Try.prog 11 #[] w fun e w' => e = .returned (.bool r) ∧ Below w.heap.size w w' := by
 have hu27 := Try.underlying27
 have HB := Aside0.mk (Below.refl w.heap.size w)
 have H : ((tens_New.f k (([2, 3] : List Int)) 4294967296).bind fun bt234 => ((tens_Fold.f k bt234.1 bt234.2.1 (([3] : List Int))).bind fun bt245 => (if bt234.2.2 = 0 then ((tens_Good.f k bt234.1 bt234.2.1).bind fun t253 => (if t253 = true then (if (bt234.2.1.length : Int) = 6 then (if bt245.2.2 = 0 then ((carousellaw6_row.f (([8589934592, 8589934592, 8589934592] : List Int))).bind fun bt257 => ((tens_Same.f k bt245.1 bt245.2.1 bt257.1 bt257.2).bind fun t263 => (some t263))) else (none)) else (none)) else (none))) else (none)))) = some r := h
 clear h
 obtain ⟨y231, hy231⟩ : ∃ y_ : List Int, y_ = (([2, 3] : List Int)) := ⟨_, rfl⟩
 replace H : ((tens_New.f k y231 4294967296).bind fun bt234 => ((tens_Fold.f k bt234.1 bt234.2.1 (([3] : List Int))).bind fun bt245 => (if bt234.2.2 = 0 then ((tens_Good.f k bt234.1 bt234.2.1).bind fun t253 => (if t253 = true then (if (bt234.2.1.length : Int) = 6 then (if bt245.2.2 = 0 then ((carousellaw6_row.f (([8589934592, 8589934592, 8589934592] : List Int))).bind fun bt257 => ((tens_Same.f k bt245.1 bt245.2.1 bt257.1 bt257.2).bind fun t263 => (some t263))) else (none)) else (none)) else (none))) else (none)))) = some r := by first | (rw [hy231]; with_reducible exact H) | (have H2_ := (Option.bind_some _ _).symm.trans H; rw [hy231]; with_reducible exact H2_) | (have H2_ := (Option.bind_some _ _).symm.trans H; with_reducible exact H2_) | with_reducible exact H | (rw [hy231]; exact H) | exact H
 have Ny231 := Aside0.mk hy231
 clear hy231
 replace H := Option.bind_eq_some_iff.mp H
 obtain ⟨⟨t234, t237, t240⟩, A10, H⟩ := H
 (try dsimp only at H)
 have A1 := Aside0.mk A10
 clear A10
 obtain ⟨y242, hy242⟩ : ∃ y_ : List Int, y_ = (([3] : List Int)) := ⟨_, rfl⟩
 replace H : ((tens_Fold.f k t234 t237 y242).bind fun bt245 => (if t240 = 0 then ((tens_Good.f k t234 t237).bind fun t253 => (if t253 = true then (if (t237.length : Int) = 6 then (if bt245.2.2 = 0 then ((carousellaw6_row.f (([8589934592, 8589934592, 8589934592] : List Int))).bind fun bt257 => ((tens_Same.f k bt245.1 bt245.2.1 bt257.1 bt257.2).bind fun t263 => (some t263))) else (none)) else (none)) else (none))) else (none))) = some r := by first | (rw [hy242]; with_reducible exact H) | (have H2_ := (Option.bind_some _ _).symm.trans H; rw [hy242]; with_reducible exact H2_) | (have H2_ := (Option.bind_some _ _).symm.trans H; with_reducible exact H2_) | with_reducible exact H | (rw [hy242]; exact H) | exact H
 have Ny242 := Aside0.mk hy242
 clear hy242
 replace H := Option.bind_eq_some_iff.mp H
 obtain ⟨⟨t245, t248, t251⟩, A20, H⟩ := H
 (try dsimp only at H)
 have A2 := Aside0.mk A20
 clear A20
 by_cases c3 : t240 = 0
 rotate_left
 ·rw [if_neg c3] at H
  have c3b0 : (t240 == 0) = false := beq_eq_false_iff_ne.mpr c3
  have c3b1 : (t240 != 0) = true := bne_iff_ne.mpr c3
  exact absurd H (by simp)
 rw [if_pos c3] at H
 have c3b0 : (t240 == 0) = true := beq_iff_eq.mpr c3
 have c3b1 : (t240 != 0) = false := bne_eq_false_iff_eq.mpr c3
 clear c3
 replace H := Option.bind_eq_some_iff.mp H
 obtain ⟨t253, A40, H⟩ := H
 (try dsimp only at H)
 have A4 := Aside0.mk A40
 clear A40
 by_cases c5 : t253 = true
 rotate_left
 ·replace c5 := Bool.eq_false_iff.mpr c5
  subst c5
  have H1 : (none) = some r := by rw [if_neg (show ¬ (false = true) by decide)] at H; exact H
  clear H
  have H := H1
  clear H1
  exact absurd H (by simp)
 subst c5
 have H1 := H
 rw [if_pos rfl] at H1
 clear H
 have H := H1
 clear H1
 by_cases c6 : (t237.length : Int) = 6
 rotate_left
 ·rw [if_neg c6] at H
  have c6b0 : ((t237.length : Int) == 6) = false := beq_eq_false_iff_ne.mpr c6
  have c6b1 : ((t237.length : Int) != 6) = true := bne_iff_ne.mpr c6
  exact absurd H (by simp)
 rw [if_pos c6] at H
 have c6b0 : ((t237.length : Int) == 6) = true := beq_iff_eq.mpr c6
 have c6b1 : ((t237.length : Int) != 6) = false := bne_eq_false_iff_eq.mpr c6
 clear c6
 by_cases c7 : t251 = 0
 rotate_left
 ·rw [if_neg c7] at H
  have c7b0 : (t251 == 0) = false := beq_eq_false_iff_ne.mpr c7
  have c7b1 : (t251 != 0) = true := bne_iff_ne.mpr c7
  exact absurd H (by simp)
 rw [if_pos c7] at H
 have c7b0 : (t251 == 0) = true := beq_iff_eq.mpr c7
 have c7b1 : (t251 != 0) = false := bne_eq_false_iff_eq.mpr c7
 clear c7
 obtain ⟨y254, hy254⟩ : ∃ y_ : List Int, y_ = (([8589934592, 8589934592, 8589934592] : List Int)) := ⟨_, rfl⟩
 replace H : ((carousellaw6_row.f y254).bind fun bt257 => ((tens_Same.f k t245 t248 bt257.1 bt257.2).bind fun t263 => (some t263))) = some r := by first | (rw [hy254]; with_reducible exact H) | (have H2_ := (Option.bind_some _ _).symm.trans H; rw [hy254]; with_reducible exact H2_) | (have H2_ := (Option.bind_some _ _).symm.trans H; with_reducible exact H2_) | with_reducible exact H | (rw [hy254]; exact H) | exact H
 have Ny254 := Aside0.mk hy254
 clear hy254
 replace H := Option.bind_eq_some_iff.mp H
 obtain ⟨⟨t257, t260⟩, A80, H⟩ := H
 replace H : ((tens_Same.f k t245 t248 t257 t260).bind fun t263 => (some t263)) = some r := H
 have A8 := Aside0.mk A80
 clear A80
 replace H := Option.bind_eq_some_iff.mp H
 obtain ⟨t263, A90, H⟩ := H
 replace H : (some t263) = some r := H
 have A9 := Aside0.mk A90
 clear A90
 obtain rfl := Option.some.inj H
 go_enter Try.func11, Try.ntmps11
 try go_wp2_with (first | ((with_reducible refine gate_dst (N := 6) rfl ?_); (try (refine gate_guard (by rfl) ?_; dsimp only)); refine Kd.R_lit (Kd.int .i64) _ 3 ?hg (N := 6) ?hd (xs := ([2, 3] : List Int)) (inner := [.int .i64 2, .int .i64 3]) (ok := fun _ => True) (okp := fun _ => True) ?hr ?hp (fun _ hk => hk) trivial (Below.refl _ _) (Nat.le_refl _) (by simp) ?_; (case hd => rfl); (case hg => rfl); (case hr => first | (go_simp; done) | (go_simp; rfl)); (case hp => exact (Reps.one (show Kd.M (Kd.int .i64) _ _ _ 2 [.int .i64 2] from rfl) (Reps.one (show Kd.M (Kd.int .i64) _ _ _ 3 [.int .i64 3] from rfl) (Reps.none _ _)))); intro v232 w10 ho11 hb hg_ hnew_; clear hg_ hnew_; (first | rw [← Ny231.out] at ho11 | (simp only [Int.reduceToNat] at ho11; rw [← Ny231.out] at ho11)); have HO233 := Aside0.mk (Kd.R_lower ho11 (below_size (zw0_ HB))); replace HB := Aside0.mk (below_step (zw0_ HB) hb); clear hb ho11; obtain ⟨Ao12, co12, eo12⟩ := Kd.R_slice HO233.out; subst eo12) | ((with_reducible refine gate_callee (f := 12) rfl ?_); refine zg_ (some 7) Try.func12 #[.slice Ao12 y231.length co12, .int .i64 4294967296] (h := ?_); (with_reducible refine (tens_New.calls k _ _ y231 4294967296 t234 t237 t240 _ ?side1 ?side2 A1.out).mono ?_); (case side1 => exact zk_ ((Kd.R_reads' HO233.out).2.2)); (case side2 => exact (Kd.R_reads' HO233.out).2.1); rintro e w13 ⟨v235, v238, rfl, ho0, ho1, hb⟩; refine ⟨_, rfl, ?_⟩; have HO236 := Aside0.mk (Kd.R_lower (Kd.R_new' ho0 (Kd.R_lt (zr_ HO233.out))) (below_size (zw0_ HB))); replace HO233 := ze_ HO233 ho0 hb; have HO239 := Aside0.mk (Kd.R_lower ho1 (below_size (zw0_ HB))); replace HB := Aside0.mk (below_step (zw0_ HB) hb); (try clear hb); (try clear ho0); (try clear ho1)) | ((with_reducible refine gate_dst (N := 1) rfl ?_); (try (refine gate_guard (by rfl) ?_; dsimp only)); refine box_event ?hg (N := 1) ?hd (cs := #[.slice none 0 0, .slice none 0 0]) (t := 27) ?hr ?_; (case hd => rfl); (case hg => rfl); (case hr => first | (go_simp; done) | (go_simp; rfl)); intro gb241 hg w14 hbox hb; replace HO233 := zy_ HO233 hb; replace HO236 := zy_ HO236 hb; replace HO239 := zy_ HO239 hb; have BK241 := Aside0.mk (hbox); have GW241 := Aside0.mk (zs_ hg (zw0_ HB)); have GE241 := Aside0.mk (zs_ hg (zw0_ HB)); replace HB := Aside0.mk (below_step (zw0_ HB) hb); clear hb hbox hg; obtain ⟨Ao15, co15, eo15⟩ := Kd.R_slice HO236.out; subst eo15; have hcz16_0 := zx_ (v := .slice none 0 0) BK241 0; have hcz16_1 := zx_ (v := .slice none 0 0) BK241 1; have hfz16_0 := blk_frozen BK241.out 0; have hfz16_1 := blk_frozen BK241.out 1; obtain ⟨Ao17, co17, eo17⟩ := Kd.R_slice HO239.out; subst eo17) | ((with_reducible refine gate_dst (N := 12) rfl ?_); (try (refine gate_guard (by rfl) ?_; dsimp only)); refine Kd.R_lit (Kd.int .i64) _ 3 ?hg (N := 12) ?hd (xs := ([3] : List Int)) (inner := [.int .i64 3]) (ok := fun _ => True) (okp := fun _ => True) ?hr ?hp (fun _ hk => hk) trivial (Below.refl _ _) (Nat.le_refl _) (by simp) ?_; (case hd => rfl); (case hg => rfl); (case hr => first | (go_simp; done) | (go_simp; rfl)); (case hp => exact (Reps.one (show Kd.M (Kd.int .i64) _ _ _ 3 [.int .i64 3] from rfl) (Reps.none _ _))); intro v243 w18 ho19 hb hg_ hnew_; clear hg_ hnew_; (first | rw [← Ny242.out] at ho19 | (simp only [Int.reduceToNat] at ho19; rw [← Ny242.out] at ho19)); replace HO239 := Aside0.mk (Kd.R_below (zr_ ((zf_ HO239 BK241 (.slice Ao15 t234.length co15) (.slice Ao17 t237.length co17)))) hb); have HO244 := Aside0.mk (Kd.R_lower (Kd.R_new' (Kd.R_new' ho19 (Kd.R_lt (zr_ ((zf_ HO233 BK241 (.slice Ao15 t234.length co15) (.slice Ao17 t237.length co17)))))) (Kd.R_lt (zr_ ((zf_ HO236 BK241 (.slice Ao15 t234.length co15) (.slice Ao17 t237.length co17)))))) (below_size (zw1_ HB GE241))); replace HO233 := Aside0.mk (Kd.R_elder' (zr_ ((zf_ HO233 BK241 (.slice Ao15 t234.length co15) (.slice Ao17 t237.length co17)))) (Kd.R_base ho19) hb); replace HO236 := Aside0.mk (Kd.R_elder' (zr_ ((zf_ HO236 BK241 (.slice Ao15 t234.length co15) (.slice Ao17 t237.length co17)))) (Kd.R_base ho19) hb); replace BK241 := Aside0.mk (blk_below (g := gb241) (o := .cells #[.slice Ao15 t234.length co15, .slice Ao17 t237.length co17] 27 (0, 0)) (zo2_ BK241) hb); replace HB := Aside0.mk (below_step (zw1_ HB GE241) hb); clear hb ho19; obtain ⟨Ao20, co20, eo20⟩ := Kd.R_slice HO244.out; subst eo20) | ((with_reducible refine gate_callee (f := 26) rfl ?_); refine zg_ (some 13) Try.func26 #[.agg #[.slice Ao15 t234.length co15, .slice Ao17 t237.length co17], .slice Ao20 y242.length co20] (h := ?_); (with_reducible refine (tens_Fold.calls k _ _ t234 _ _ t237 _ _ y242 t245 t248 t251 _ ?side1 ?side2 ?side3 ?side4 ?side5 ?side6 A2.out).mono ?_); (case side1 => exact zk_ ((Kd.R_reads' HO236.out).2.2)); (case side2 => exact (Kd.R_reads' HO236.out).2.1); (case side3 => exact zk_ ((Kd.R_reads' HO239.out).2.2)); (case side4 => exact (Kd.R_reads' HO239.out).2.1); (case side5 => exact zk_ ((Kd.R_reads' HO244.out).2.2)); (case side6 => exact (Kd.R_reads' HO244.out).2.1); rintro e w21 ⟨v246, v249, rfl, ho0, ho1, hb⟩; refine ⟨_, rfl, ?_⟩; have HO247 := Aside0.mk (Kd.R_lower (Kd.R_new' (Kd.R_new' (Kd.R_new' ho0 (Kd.R_lt (zr_ HO233.out))) (Kd.R_lt (zr_ HO236.out))) (Kd.R_lt (zr_ HO244.out))) (below_size (zw1_ HB GE241))); replace HO233 := ze_ HO233 ho0 hb; replace HO236 := ze_ HO236 ho0 hb; replace HO244 := ze_ HO244 ho0 hb; have HO250 := Aside0.mk (Kd.R_lower (Kd.R_new' ho1 (Kd.R_lt (zr_ HO239.out))) (below_size (zw1_ HB GE241))); replace HO239 := ze_ HO239 ho1 hb; replace BK241 := za_ BK241 hb; replace HB := Aside0.mk (below_step (zw1_ HB GE241) hb); (try clear hb); (try clear ho0); (try clear ho1)) | ((with_reducible refine gate_dst (N := 3) rfl ?_); (try (refine gate_guard (by rfl) ?_; dsimp only)); refine box_event ?hg (N := 3) ?hd (cs := #[.slice none 0 0, .slice none 0 0]) (t := 27) ?hr ?_; (case hd => rfl); (case hg => rfl); (case hr => first | (go_simp; done) | (go_simp; rfl)); intro gb252 hg w22 hbox hb; replace HO233 := zy_ HO233 hb; replace HO236 := zy_ HO236 hb; replace HO239 := zy_ HO239 hb; replace HO244 := zy_ HO244 hb; replace HO247 := zy_ HO247 hb; replace HO250 := zy_ HO250 hb; have BK252 := Aside0.mk (hbox); have GW252 := Aside0.mk (zs_ hg (zw1_ HB GE241)); have GE252 := Aside0.mk (zs_ hg (zw1_ HB GE241)); replace HB := Aside0.mk (below_step (zw1_ HB GE241) hb); have NB241_252 := Aside0.mk (zn_ hg BK241); have NB252_241 := Aside0.mk (zm_ hg BK241); replace BK241 := za_ BK241 hb; clear hb hbox hg; obtain ⟨Ao23, co23, eo23⟩ := Kd.R_slice HO247.out; subst eo23; have hnb24 := NB252_241.out; have hnc24 := NB241_252.out; have hcz25_0 := zx_ (v := .slice none 0 0) BK252 0; have hcz25_1 := zx_ (v := .slice none 0 0) BK252 1; have hfz25_0 := blk_frozen BK252.out 0; have hfz25_1 := blk_frozen BK252.out 1; obtain ⟨Ao26, co26, eo26⟩ := Kd.R_slice HO250.out; subst eo26))
 have n0_ : Aside0 (Kd.R (Kd.int .i64) 3 ((w22.setCell ⟨gb252, 0, none⟩ (.slice Ao23 t245.length co23)).setCell ⟨gb252, 1, none⟩ (.slice Ao26 t248.length co26)) w.heap.size (fun k_ => some k_ ≠ (.slice Ao15 t234.length co15 : Value).ownBlock ∧ some k_ ≠ (.slice Ao20 y242.length co20 : Value).ownBlock ∧ some k_ ≠ (.slice Ao23 t245.length co23 : Value).ownBlock) (.slice Ao12 y231.length co12) y231) := ⟨zr_ (Kd.R_mono (Kd.R_far (p := ⟨gb252, 1, none⟩) (Kd.R_far (p := ⟨gb252, 0, none⟩) (Kd.R_types HO233.out BK252.out (by decide)) (fun _ hk => hk.2) (.slice Ao23 t245.length co23)) (fun _ hk => hk.2) (.slice Ao26 t248.length co26)) (fun _ hk => ⟨hk.1.1.1.2, ⟨hk.1.1.2, hk.1.2⟩⟩))⟩
 have n1_ : Aside0 (Kd.R (Kd.int .i64) 3 ((w22.setCell ⟨gb252, 0, none⟩ (.slice Ao23 t245.length co23)).setCell ⟨gb252, 1, none⟩ (.slice Ao26 t248.length co26)) w.heap.size (fun k_ => some k_ ≠ (.slice Ao12 y231.length co12 : Value).ownBlock ∧ some k_ ≠ (.slice Ao20 y242.length co20 : Value).ownBlock ∧ some k_ ≠ (.slice Ao23 t245.length co23 : Value).ownBlock) (.slice Ao15 t234.length co15) t234) := ⟨zr_ (Kd.R_mono (Kd.R_far (p := ⟨gb252, 1, none⟩) (Kd.R_far (p := ⟨gb252, 0, none⟩) (Kd.R_types HO236.out BK252.out (by decide)) (fun _ hk => hk.2) (.slice Ao23 t245.length co23)) (fun _ hk => hk.2) (.slice Ao26 t248.length co26)) (fun _ hk => ⟨hk.1.1.1.2, ⟨hk.1.1.2, hk.1.2⟩⟩))⟩
 have n2_ : Aside0 (Kd.R (Kd.int .i64) 23 ((w22.setCell ⟨gb252, 0, none⟩ (.slice Ao23 t245.length co23)).setCell ⟨gb252, 1, none⟩ (.slice Ao26 t248.length co26)) w.heap.size (fun k_ => some k_ ≠ (.slice Ao26 t248.length co26 : Value).ownBlock) (.slice Ao17 t237.length co17) t237) := ⟨zr_ (Kd.R_mono (Kd.R_far (p := ⟨gb252, 1, none⟩) (Kd.R_far (p := ⟨gb252, 0, none⟩) (Kd.R_types HO239.out BK252.out (by decide)) (fun _ hk => hk.2) (.slice Ao23 t245.length co23)) (fun _ hk => hk.2) (.slice Ao26 t248.length co26)) (fun _ hk => hk.1.2))⟩
 have n3_ : Aside0 (Kd.R (Kd.int .i64) 3 ((w22.setCell ⟨gb252, 0, none⟩ (.slice Ao23 t245.length co23)).setCell ⟨gb252, 1, none⟩ (.slice Ao26 t248.length co26)) w.heap.size (fun k_ => some k_ ≠ (.slice Ao12 y231.length co12 : Value).ownBlock ∧ some k_ ≠ (.slice Ao15 t234.length co15 : Value).ownBlock ∧ some k_ ≠ (.slice Ao23 t245.length co23 : Value).ownBlock) (.slice Ao20 y242.length co20) y242) := ⟨zr_ (Kd.R_mono (Kd.R_far (p := ⟨gb252, 1, none⟩) (Kd.R_far (p := ⟨gb252, 0, none⟩) (Kd.R_types HO244.out BK252.out (by decide)) (fun _ hk => hk.2) (.slice Ao23 t245.length co23)) (fun _ hk => hk.2) (.slice Ao26 t248.length co26)) (fun _ hk => ⟨hk.1.1.1.2, ⟨hk.1.1.2, hk.1.2⟩⟩))⟩
 have n4_ : Aside0 (Kd.R (Kd.int .i64) 3 ((w22.setCell ⟨gb252, 0, none⟩ (.slice Ao23 t245.length co23)).setCell ⟨gb252, 1, none⟩ (.slice Ao26 t248.length co26)) w.heap.size (fun k_ => some k_ ≠ (.slice Ao12 y231.length co12 : Value).ownBlock ∧ some k_ ≠ (.slice Ao15 t234.length co15 : Value).ownBlock ∧ some k_ ≠ (.slice Ao20 y242.length co20 : Value).ownBlock) (.slice Ao23 t245.length co23) t245) := ⟨zr_ (Kd.R_mono (Kd.R_far (p := ⟨gb252, 1, none⟩) (Kd.R_far (p := ⟨gb252, 0, none⟩) (Kd.R_types HO247.out BK252.out (by decide)) (fun _ hk => hk.2) (.slice Ao23 t245.length co23)) (fun _ hk => hk.2) (.slice Ao26 t248.length co26)) (fun _ hk => ⟨hk.1.1.1.2, ⟨hk.1.1.2, hk.1.2⟩⟩))⟩
 have n5_ : Aside0 (Kd.R (Kd.int .i64) 23 ((w22.setCell ⟨gb252, 0, none⟩ (.slice Ao23 t245.length co23)).setCell ⟨gb252, 1, none⟩ (.slice Ao26 t248.length co26)) w.heap.size (fun k_ => some k_ ≠ (.slice Ao17 t237.length co17 : Value).ownBlock) (.slice Ao26 t248.length co26) t248) := ⟨zr_ (Kd.R_mono (Kd.R_far (p := ⟨gb252, 1, none⟩) (Kd.R_far (p := ⟨gb252, 0, none⟩) (Kd.R_types HO250.out BK252.out (by decide)) (fun _ hk => hk.2) (.slice Ao23 t245.length co23)) (fun _ hk => hk.2) (.slice Ao26 t248.length co26)) (fun _ hk => hk.1.2))⟩
 have n6_ : Aside0 (((w22.setCell ⟨gb252, 0, none⟩ (.slice Ao23 t245.length co23)).setCell ⟨gb252, 1, none⟩ (.slice Ao26 t248.length co26)).heap[gb241]? = some (.cells #[.slice Ao15 t234.length co15, .slice Ao17 t237.length co17] 27 (0, 0))) := ⟨zv1_ BK241 NB241_252⟩
 have n7_ : Aside0 (((w22.setCell ⟨gb252, 0, none⟩ (.slice Ao23 t245.length co23)).setCell ⟨gb252, 1, none⟩ (.slice Ao26 t248.length co26)).heap[gb252]? = some (.cells #[.slice Ao23 t245.length co23, .slice Ao26 t248.length co26] 27 (0, 0))) := ⟨zo2_ BK252⟩
 have n8_ : Aside0 (Below w.heap.size w ((w22.setCell ⟨gb252, 0, none⟩ (.slice Ao23 t245.length co23)).setCell ⟨gb252, 1, none⟩ (.slice Ao26 t248.length co26))) := ⟨zw2_ HB GE241 GE252⟩
 (try clear HO233)
 (try clear HO236)
 (try clear HO239)
 (try clear HO244)
 (try clear HO247)
 (try clear HO250)
 (try clear BK241)
 (try clear BK252)
 (try clear HB)
 generalize ((w22.setCell ⟨gb252, 0, none⟩ (.slice Ao23 t245.length co23)).setCell ⟨gb252, 1, none⟩ (.slice Ao26 t248.length co26)) = w27 at n0_ n1_ n2_ n3_ n4_ n5_ n6_ n7_ n8_ ⊢
 have HO233 := n0_
 have HO236 := n1_
 have HO239 := n2_
 have HO244 := n3_
 have HO247 := n4_
 have HO250 := n5_
 have BK241 := n6_
 have BK252 := n7_
 have HB := n8_
 clear n0_ n1_ n2_ n3_ n4_ n5_ n6_ n7_ n8_
 replace HO233 := Aside0.mk (Kd.R_drew HO233.out)
 replace HO236 := Aside0.mk (Kd.R_drew HO236.out)
 replace HO239 := Aside0.mk (Kd.R_drew HO239.out)
 replace HO244 := Aside0.mk (Kd.R_drew HO244.out)
 replace HO247 := Aside0.mk (Kd.R_drew HO247.out)
 replace HO250 := Aside0.mk (Kd.R_drew HO250.out)
 replace BK241 := Aside0.mk (blk_drew BK241.out)
 replace BK252 := Aside0.mk (blk_drew BK252.out)
 replace HB := Aside0.mk (below_drew1 HB.out)
 refine start_ (n := 23) (S := fun w' => w'.cell? ⟨gb241, 0, none⟩ = some (.slice Ao15 t234.length co15) ∧ w'.cell? ⟨gb241, 1, none⟩ = some (.slice Ao17 t237.length co17) ∧ w'.cell? ⟨gb252, 0, none⟩ = some (.slice Ao23 t245.length co23) ∧ w'.cell? ⟨gb252, 1, none⟩ = some (.slice Ao26 t248.length co26)) (ds := []) #[false, false, false, false, false, false, false, false, false, false, false, false, false, false, false, false, false, false, false, false, false, false, false] (by kernel_rfl) rfl rfl ⟨(blk_cell BK241.out 0).trans rfl, (blk_cell BK241.out 1).trans rfl, (blk_cell BK252.out 0).trans rfl, (blk_cell BK252.out 1).trans rfl⟩ (fun hHeld => ?_); refine with_tabW carousellaw6_awake.tab3 carousellaw6_awake.bits3 (fun HT_ HW_ => ?_)
 generalize w27.drew = w28 at HO233 HO236 HO239 HO244 HO247 HO250 BK241 BK252 HB hHeld ⊢
 refine yp_ ?_ 0 16
 refine yp_ ?_ 1 17
 refine yp_ ?_ 2 18
 refine yt4_ ?_ 3 19
 refine yo_ 4 (some 20) (fun K hK => ?_)
 refine yg_ Try.func16 #[.agg #[.slice Ao15 t234.length co15, .slice Ao17 t237.length co17]] ?_
 with_reducible refine (tens_Good.calls k _ _ t234 _ _ t237 true _ ?side1 ?side2 ?side3 ?side4 A4.out).mono ?_
 (case side1 => exact zk_ ((Kd.R_reads' HO236.out).2.2))
 (case side2 => exact (Kd.R_reads' HO236.out).2.1)
 (case side3 => exact zk_ ((Kd.R_reads' HO239.out).2.2))
 (case side4 => exact (Kd.R_reads' HO239.out).2.1)
 rintro e w29 ⟨rfl, hb⟩
 refine ⟨_, rfl, ?_⟩
 replace HO233 := zy_ HO233 hb
 replace HO236 := zy_ HO236 hb
 replace HO239 := zy_ HO239 hb
 replace HO244 := zy_ HO244 hb
 replace HO247 := zy_ HO247 hb
 replace HO250 := zy_ HO250 hb
 replace BK241 := za_ BK241 hb
 replace BK252 := za_ BK252 hb
 replace HB := Aside0.mk (below_step (zw2_ HB GE241 GE252) hb)
 (try clear hb)
 (try clear hb2)
 (try clear hk)
 (try clear hi)
 refine hK.out _ _ ⟨zx_ BK241 0, zx_ BK241 1, zx_ BK252 0, zx_ BK252 1⟩ (fun hHeld => ?_)
 clear hK K
 refine zq_ (some 20) (h := ?_)
 refine yp_ ?_ 5 21
 refine yp_ ?_ 6 22
 refine yp_ ?_ 7 23
 refine yt4_ ?_ 8 24
 refine yp_ ?_ 9 25
 refine yp_ ?_ 10 26
 refine yp_ ?_ 11 27
 refine yp_ ?_ 12 28
 refine yp_ ?_ 13 29
 refine yp_ ?_ 14 30
 refine yp_ ?_ 15 31
 refine yp_ ?_ 16 32
 refine yt4_ ?_ 17 33
 refine yo_ 18 (some 34) (fun K hK => ?_)
 refine Kd.R_lit_step (Kd.int .i64) _ 23 ?hg (N := 34) ?hd (xs := ([8589934592, 8589934592, 8589934592] : List Int)) (inner := [.int .i64 8589934592, .int .i64 8589934592, .int .i64 8589934592]) (ok := fun _ => True) (okp := fun _ => True) ?hr ?hp (fun _ hk => hk) trivial (Below.refl _ _) (Nat.le_refl _) (by simp) ?_; (case hd => rfl); (case hg => rfl); (case hr => first | (go_simp; done) | (go_simp; rfl)); (case hp => exact (Reps.one (show Kd.M (Kd.int .i64) _ _ _ 8589934592 [.int .i64 8589934592] from rfl) (Reps.one (show Kd.M (Kd.int .i64) _ _ _ 8589934592 [.int .i64 8589934592] from rfl) (Reps.one (show Kd.M (Kd.int .i64) _ _ _ 8589934592 [.int .i64 8589934592] from rfl) (Reps.none _ _)))))
 intro v255 w30 ho31 hb hg_ hnew_
 clear hg_ hnew_
 (first | rw [← Ny254.out] at ho31 | (simp only [Int.reduceToNat] at ho31; rw [← Ny254.out] at ho31))
 replace HO233 := zy_ HO233 hb
 replace HO236 := zy_ HO236 hb
 replace HO244 := zy_ HO244 hb
 replace HO247 := zy_ HO247 hb
 have HO256 := Aside0.mk (Kd.R_lower (Kd.R_new' (Kd.R_new' ho31 (Kd.R_lt (zr_ HO239.out))) (Kd.R_lt (zr_ HO250.out))) (below_size (zw2_ HB GE241 GE252)))
 replace HO239 := ze_ HO239 ho31 hb
 replace HO250 := ze_ HO250 ho31 hb
 replace BK241 := za_ BK241 hb
 replace BK252 := za_ BK252 hb
 replace HB := Aside0.mk (below_step (zw2_ HB GE241 GE252) hb)
 clear hb ho31
 obtain ⟨Ao32, co32, eo32⟩ := Kd.R_slice HO256.out
 (first | subst eo32 | (injection eo32 with f1_ f2_ f3_; have f4_ := f1_.symm; have f5_ := f3_.symm; clear f1_ f2_ f3_; subst f4_; subst f5_))
 refine hK.out _ _ ⟨zx_ BK241 0, zx_ BK241 1, zx_ BK252 0, zx_ BK252 1⟩ (fun hHeld => ?_)
 clear hK K
 refine zq_ (some 34) (h := ?_)
 refine yo_ 19 (some 35) (fun K hK => ?_)
 refine yg_ Try.func28 #[.slice Ao32 y254.length co32] ?_
 with_reducible refine (carousellaw6_row.calls (fun k_ => some k_ = (.slice Ao32 y254.length co32 : Value).ownBlock) (.slice Ao32 y254.length co32) y254 t257 t260 w _ ?side1 ?side2 A8.out).mono ?_
 (case side1 => repeat (first | (with_reducible first | exact HB.out | apply below_alloc | apply pw_below_drewN | apply below_drew1 | refine below_set ?_ GE241.out | refine below_set ?_ GE252.out) | exact HB.out))
 (case side2 => exact Kd.R_tight rfl HO256.out)
 rintro e w33 ⟨v258, v261, rfl, ho0, ho1, hb, hkp⟩
 refine ⟨_, rfl, ?_⟩
 replace BK241 := Aside0.mk (blk_kept (zb_ BK241) hkp (fun hs_ => (fun e_ => (Kd.R_ne HO256.out BK241.out (by decide)) e_) hs_))
 replace BK252 := Aside0.mk (blk_kept (zb_ BK252) hkp (fun hs_ => (fun e_ => (Kd.R_ne HO256.out BK252.out (by decide)) e_) hs_))
 have HO259 := Aside0.mk (Kd.R_mono (ok' := fun k_ => some k_ ≠ (.slice Ao12 y231.length co12 : Value).ownBlock ∧ some k_ ≠ (.slice Ao15 t234.length co15 : Value).ownBlock ∧ some k_ ≠ (.slice Ao20 y242.length co20 : Value).ownBlock ∧ some k_ ≠ (.slice Ao23 t245.length co23 : Value).ownBlock) ho0 (fun k_ hk_ => ⟨Or.elim hk_ (fun hs_ => fun e_ => ((((Kd.R_apart' HO233.out (Kd.R_typed HO256.out) (by decide))).1 k_ e_.symm).2) hs_) (fun hn_ => (Kd.fresh' (Kd.R_lt (zr_ HO233.out)) k_ hn_)), Or.elim hk_ (fun hs_ => fun e_ => ((((Kd.R_apart' HO236.out (Kd.R_typed HO256.out) (by decide))).1 k_ e_.symm).2) hs_) (fun hn_ => (Kd.fresh' (Kd.R_lt (zr_ HO236.out)) k_ hn_)), Or.elim hk_ (fun hs_ => fun e_ => ((((Kd.R_apart' HO244.out (Kd.R_typed HO256.out) (by decide))).1 k_ e_.symm).2) hs_) (fun hn_ => (Kd.fresh' (Kd.R_lt (zr_ HO244.out)) k_ hn_)), Or.elim hk_ (fun hs_ => fun e_ => ((((Kd.R_apart' HO247.out (Kd.R_typed HO256.out) (by decide))).1 k_ e_.symm).2) hs_) (fun hn_ => (Kd.fresh' (Kd.R_lt (zr_ HO247.out)) k_ hn_))⟩))
 replace HO233 := Aside0.mk (Kd.R_mono (ok' := fun k_ => some k_ ≠ (.slice Ao15 t234.length co15 : Value).ownBlock ∧ some k_ ≠ (.slice Ao20 y242.length co20 : Value).ownBlock ∧ some k_ ≠ (.slice Ao23 t245.length co23 : Value).ownBlock ∧ some k_ ≠ (v258 : Value).ownBlock) (Kd.R_keptB ((Kd.R_apart' HO233.out (Kd.R_typed HO256.out) (by decide))) hkp (fun k_ hk_ hs_ => (hk_.2) hs_)) (fun k_ hk_ => ⟨hk_.1.1.1, hk_.1.1.2.1, hk_.1.1.2.2, fun e_ => Or.elim (ho0.1 k_ e_.symm) (fun hs_ => hk_.2.1 hs_) (fun hn_ => Nat.not_le.2 hk_.2.2 hn_)⟩))
 replace HO236 := Aside0.mk (Kd.R_mono (ok' := fun k_ => some k_ ≠ (.slice Ao12 y231.length co12 : Value).ownBlock ∧ some k_ ≠ (.slice Ao20 y242.length co20 : Value).ownBlock ∧ some k_ ≠ (.slice Ao23 t245.length co23 : Value).ownBlock ∧ some k_ ≠ (v258 : Value).ownBlock) (Kd.R_keptB ((Kd.R_apart' HO236.out (Kd.R_typed HO256.out) (by decide))) hkp (fun k_ hk_ hs_ => (hk_.2) hs_)) (fun k_ hk_ => ⟨hk_.1.1.1, hk_.1.1.2.1, hk_.1.1.2.2, fun e_ => Or.elim (ho0.1 k_ e_.symm) (fun hs_ => hk_.2.1 hs_) (fun hn_ => Nat.not_le.2 hk_.2.2 hn_)⟩))
 replace HO244 := Aside0.mk (Kd.R_mono (ok' := fun k_ => some k_ ≠ (.slice Ao12 y231.length co12 : Value).ownBlock ∧ some k_ ≠ (.slice Ao15 t234.length co15 : Value).ownBlock ∧ some k_ ≠ (.slice Ao23 t245.length co23 : Value).ownBlock ∧ some k_ ≠ (v258 : Value).ownBlock) (Kd.R_keptB ((Kd.R_apart' HO244.out (Kd.R_typed HO256.out) (by decide))) hkp (fun k_ hk_ hs_ => (hk_.2) hs_)) (fun k_ hk_ => ⟨hk_.1.1.1, hk_.1.1.2.1, hk_.1.1.2.2, fun e_ => Or.elim (ho0.1 k_ e_.symm) (fun hs_ => hk_.2.1 hs_) (fun hn_ => Nat.not_le.2 hk_.2.2 hn_)⟩))
 replace HO247 := Aside0.mk (Kd.R_mono (ok' := fun k_ => some k_ ≠ (.slice Ao12 y231.length co12 : Value).ownBlock ∧ some k_ ≠ (.slice Ao15 t234.length co15 : Value).ownBlock ∧ some k_ ≠ (.slice Ao20 y242.length co20 : Value).ownBlock ∧ some k_ ≠ (v258 : Value).ownBlock) (Kd.R_keptB ((Kd.R_apart' HO247.out (Kd.R_typed HO256.out) (by decide))) hkp (fun k_ hk_ hs_ => (hk_.2) hs_)) (fun k_ hk_ => ⟨hk_.1.1.1, hk_.1.1.2.1, hk_.1.1.2.2, fun e_ => Or.elim (ho0.1 k_ e_.symm) (fun hs_ => hk_.2.1 hs_) (fun hn_ => Nat.not_le.2 hk_.2.2 hn_)⟩))
 have HO262 := Aside0.mk (Kd.R_mono (ok' := fun k_ => some k_ ≠ (.slice Ao17 t237.length co17 : Value).ownBlock ∧ some k_ ≠ (.slice Ao26 t248.length co26 : Value).ownBlock) ho1 (fun k_ hk_ => ⟨Or.elim hk_ (fun hs_ => fun e_ => (((HO239.out).1 k_ e_.symm).2) hs_) (fun hn_ => (Kd.fresh' (Kd.R_lt (zr_ HO239.out)) k_ hn_)), Or.elim hk_ (fun hs_ => fun e_ => (((HO250.out).1 k_ e_.symm).2) hs_) (fun hn_ => (Kd.fresh' (Kd.R_lt (zr_ HO250.out)) k_ hn_))⟩))
 replace HO239 := Aside0.mk (Kd.R_mono (ok' := fun k_ => some k_ ≠ (.slice Ao26 t248.length co26 : Value).ownBlock ∧ some k_ ≠ (v261 : Value).ownBlock) (Kd.R_keptB (HO239.out) hkp (fun k_ hk_ hs_ => (hk_.2) hs_)) (fun k_ hk_ => ⟨hk_.1.1, fun e_ => Or.elim (ho1.1 k_ e_.symm) (fun hs_ => hk_.2.1 hs_) (fun hn_ => Nat.not_le.2 hk_.2.2 hn_)⟩))
 replace HO250 := Aside0.mk (Kd.R_mono (ok' := fun k_ => some k_ ≠ (.slice Ao17 t237.length co17 : Value).ownBlock ∧ some k_ ≠ (v261 : Value).ownBlock) (Kd.R_keptB (HO250.out) hkp (fun k_ hk_ hs_ => (hk_.2) hs_)) (fun k_ hk_ => ⟨hk_.1.1, fun e_ => Or.elim (ho1.1 k_ e_.symm) (fun hs_ => hk_.2.1 hs_) (fun hn_ => Nat.not_le.2 hk_.2.2 hn_)⟩))
 replace HB := Aside0.mk (hb)
 clear HO256
 (try clear hb)
 (try clear hkp)
 (try clear ho0)
 (try clear ho1)
 obtain ⟨Ao34, co34, eo34⟩ := Kd.R_slice HO259.out
 (first | subst eo34 | (injection eo34 with f1_ f2_ f3_; have f4_ := f1_.symm; have f5_ := f3_.symm; clear f1_ f2_ f3_; subst f4_; subst f5_))
 obtain ⟨Ao35, co35, eo35⟩ := Kd.R_slice HO262.out
 (first | subst eo35 | (injection eo35 with f1_ f2_ f3_; have f4_ := f1_.symm; have f5_ := f3_.symm; clear f1_ f2_ f3_; subst f4_; subst f5_))
 refine hK.out _ _ ⟨zx_ BK241 0, zx_ BK241 1, zx_ BK252 0, zx_ BK252 1⟩ (fun hHeld => ?_)
 clear hK K
 refine zq_ (some 35) (h := ?_)
 refine yo_ 20 (some 36) (fun K hK => ?_)
 refine yg_ Try.func21 #[.agg #[.slice Ao23 t245.length co23, .slice Ao26 t248.length co26], .agg #[.slice Ao34 t257.length co34, .slice Ao35 t260.length co35]] ?_
 with_reducible refine (tens_Same.calls k _ _ t245 _ _ t248 _ _ t257 _ _ t260 t263 _ ?side1 ?side2 ?side3 ?side4 ?side5 ?side6 ?side7 ?side8 A9.out).mono ?_
 (case side1 => exact zk_ ((Kd.R_reads' HO247.out).2.2))
 (case side2 => exact (Kd.R_reads' HO247.out).2.1)
 (case side3 => exact zk_ ((Kd.R_reads' HO250.out).2.2))
 (case side4 => exact (Kd.R_reads' HO250.out).2.1)
 (case side5 => exact zk_ ((Kd.R_reads' HO259.out).2.2))
 (case side6 => exact (Kd.R_reads' HO259.out).2.1)
 (case side7 => exact zk_ ((Kd.R_reads' HO262.out).2.2))
 (case side8 => exact (Kd.R_reads' HO262.out).2.1)
 rintro e w36 ⟨rfl, hb⟩
 refine ⟨_, rfl, ?_⟩
 replace HO233 := zy_ HO233 hb
 replace HO236 := zy_ HO236 hb
 replace HO239 := zy_ HO239 hb
 replace HO244 := zy_ HO244 hb
 replace HO247 := zy_ HO247 hb
 replace HO250 := zy_ HO250 hb
 replace HO259 := zy_ HO259 hb
 replace HO262 := zy_ HO262 hb
 replace BK241 := za_ BK241 hb
 replace BK252 := za_ BK252 hb
 replace HB := Aside0.mk (below_step (zw2_ HB GE241 GE252) hb)
 (try clear hb)
 (try clear hb2)
 (try clear hk)
 (try clear hi)
 refine hK.out _ _ ⟨zx_ BK241 0, zx_ BK241 1, zx_ BK252 0, zx_ BK252 1⟩ (fun hHeld => ?_)
 clear hK K
 refine zq_ (some 36) (h := ?_)
 refine yp_ ?_ 21 37
 refine yp_ ?_ 22 0
 refine done_ (done_of HT_.out (by kernel_rfl)) ?_
 try go_wp2
 go_ret
 exact ⟨z0_, zw2_ HB GE241 GE252⟩

/-! ### slices_Clone_Fix: function 41 -/
def slices_Clone_Fix.f (l0 : List Int) : Option (List Int) := if l0.length < 17592186044416 then some l0 else none
set_option maxHeartbeats 8000000 in
set_option maxRecDepth 100000 in
theorem slices_Clone_Fix.calls (A0 : Option Addr) (c0 : Nat) (l0 : List Int) (r : List Int) (w : World) (hr0 : Kd.C (Kd.int .i64) w A0 l0.length l0) (hc0 : l0.length ≤ c0) (h : slices_Clone_Fix.f l0 = some r) :
  Calls Try.prog 41 #[.slice A0 l0.length c0] w fun e w' => ∃ v0_ : Value, e = .returned (v0_) ∧ Kd.R (Kd.int .i64) 23 w' w.heap.size (fun _ => True) v0_ r ∧ Below w.heap.size w w' := by
 have HR0 := Aside0.mk hr0
 have HC0 := Aside0.mk hc0
 clear hc0
 have HB := Aside0.mk (Below.refl w.heap.size w)
 have heq : ∀ (w : World) (a : Option Addr) (n c n' c' : Nat), (binOp .eql 25 (.slice a n c) (.slice none n' c')).run Try.prog w = .ok (.bool a.isNone) w := fun w a n c n' c' => Lib.run_eql_slice_nil w _ _ a n c n' c' Try.underlying25
 unfold slices_Clone_Fix.f at h
 by_cases c3 : l0.length < 17592186044416
 rotate_left
 ·rw [if_neg c3] at h
  cases h
 rw [if_pos c3] at h
 obtain rfl := Option.some.inj h
 have LMc3 := Aside0.mk c3
 clear c3 h
 cases A0 with
 | none =>
  have e0 : l0 = [] := by
   cases l0 with
   | nil => rfl
   | cons x xs => obtain ⟨ad, e, _⟩ := hr0.2.2 (by simp); cases e
  subst e0
  clear hr0
  go_enter Try.func41, Try.ntmps41
  go_wp2
  go_ret
  exact ⟨_, rfl, Kd.R_nil _ _ _ _ _, Below.refl _ _⟩
 | some a0 =>
  clear hr0
  obtain ⟨y0, hy0⟩ : ∃ y_ : List Int, y_ = (([] : List Int)) := ⟨_, rfl⟩
  have Ny0 := Aside0.mk hy0
  have LMc4 : Aside0 (y0.length + l0.length < 17592186044416) := ⟨by rw [hy0]; simpa using LMc3.out⟩
  obtain ⟨y1, hy1⟩ : ∃ y_ : List Int, y_ = y0 ++ l0 := ⟨_, rfl⟩
  have e1 : y1 = l0 := by rw [hy1, hy0]; rfl
  have Ny1 := Aside0.mk hy1
  have E1 := Aside0.mk e1
  clear hy0 hy1 e1
  go_enter Try.func41, Try.ntmps41
  go_wp2_with (first | ((with_reducible refine gate_dst (N := 5) rfl ?_); refine Kd.R_lit (Kd.int .i64) _ 23 ?hg (N := 5) ?hd (xs := ([] : List Int)) (inner := []) (ok := fun _ => True) (okp := fun _ => True) ?hr ?hp (fun _ hk => hk) trivial (Below.refl _ _) (Nat.le_refl _) (by simp) ?_; (case hd => rfl); (case hg => rfl); (case hr => first | (go_simp; done) | (go_simp; rfl)); (case hp => exact (Reps.none _ _)); intro v182 w8 ho9 hb hg_ hnew_; clear hg_ hnew_; rw [← Ny0.out] at ho9; have n0_ := Aside0.mk (Kd.R_lower ho9 (below_size (zw0_ HB))); have n2_ := Aside0.mk (below_step (zw0_ HB) hb); clear HB; have HO183 := n0_; have HB := n2_; clear n0_ n2_; clear hb ho9) | ((with_reducible refine gate_builtin (b := .append) (xs := #[.tmp 5, .tmp 6]) rfl ?_); at_builtin; refine Kd.R_append_rows (Kd.int .i64) (w0 := w) w.heap.size rfl (.tmp 5) (.tmp 6) 25 23 (.int .i64 0) 8 rfl Try.underlying25 info23 rfl (by decide) (by omega) v182 y0 l0 _ _ _ (fun _ => True) (fun _ => False) rfl rfl ?aO ?aR (fun _ _ h => h) (fun _ h => h.elim) ?aF ?aB ?aS ?aL ?_; (case aR => exact zk_ (Kd.C_below HR0.out HB.out)); (case aB => exact (zw0_ HB)); (case aF => exact (fun _ _ => trivial)); (case aO => exact (zr_ HO183.out)); (case aS => exact (below_size (zw0_ HB))); (case aL => have := LMc4.out; omega); intro v185 w10 ho hb hg hat; rw [← Ny1.out] at ho; have n1_ := Aside0.mk (hb); have n2_ := Aside0.mk (ho); clear HB HO183; have HB := n1_; have HO186 := n2_; clear n1_ n2_; clear ho hb hg hat))
  go_ret
  exact ⟨_, rfl, by rw [← E1.out]; exact HO186.out, HB.out⟩

end Go.Proofs.Ytbdhabpplidgfaa.PTensKnown
