/- The functions that the law TensTurns reaches, as Lean functions, and that each call of the Go function does what its Lean function says, wherever that one answers. Written by a program of mine over the print of the kit; Lean checks it. -/
import Derived.Test.YtbdhabpplidgfaaPTensTurnsx0
import Derived.Test.YtbdhabpplidgfaaPTensTurnsx1
import Derived.Test.YtbdhabpplidgfaaPTensTurnsx2
import Derived.Test.YtbdhabpplidgfaaPTensTurnsx4
namespace Go.Proofs.Ytbdhabpplidgfaa.PTensTurns
open Go.RowKit Go.Proofs.YtbdhabpplidgfaaW.PrintWords Go.Proofs.YtbdhabpplidgfaaW.PrintLast Go.Proofs.YtbdhabpplidgfaaW.PrintMore
attribute [local go_sem] max2_int min2_int max_two min_two max_three min_three max_four min_four   -- for this text's walks alone
set_option linter.unusedVariables false
set_option linter.unusedSimpArgs false

/-! ### carousellaw6_awake: function 11 -/
def carousellaw6_awake.f (k : Nat)  : Option (Bool) := (tens_New.f k (([2, 3] : List Int)) 4294967296).bind fun bt195 => ((tens_Fold.f k bt195.1 bt195.2.1 (([3] : List Int))).bind fun bt206 => (if bt195.2.2 = 0 then ((tens_Good.f k bt195.1 bt195.2.1).bind fun t214 => (if t214 = true then (if (bt195.2.1.length : Int) = 6 then (if bt206.2.2 = 0 then ((carousellaw6_row.f (([8589934592, 8589934592, 8589934592] : List Int))).bind fun bt218 => ((tens_Same.f k bt206.1 bt206.2.1 bt218.1 bt218.2).bind fun t224 => (some t224))) else (none)) else (none)) else (none))) else (none)))
theorem carousellaw6_awake.mono : ∀ k, LeO (carousellaw6_awake.f k ) (carousellaw6_awake.f (k + 1) ) := by
 intro  k
 unfold carousellaw6_awake.f
 repeat' first
   | (with_reducible exact tens_Fold.mono _ _ _ _)
   | (with_reducible exact tens_Good.mono _ _ _)
   | (with_reducible exact tens_New.mono _ _ _)
   | (with_reducible exact tens_Same.mono _ _ _ _ _)
   | (with_reducible exact LeO.refl _)
   | (with_reducible exact LeO.none _)
   | (with_reducible refine LeO.ite ?_ ?_)
   | (with_reducible refine LeO.bind ?_ (fun _ => ?_))
   | exact tens_Fold.mono _ _ _ _
   | exact tens_Good.mono _ _ _
   | exact tens_New.mono _ _ _
   | exact tens_Same.mono _ _ _ _ _
   | exact LeO.none _
   | refine LeO.ite ?_ ?_
   | refine LeO.bind ?_ (fun _ => ?_)
def carousellaw6_awake.T3 : Bool × List (List Nat × List Nat) := (true, [([], []), ([0], [0]), ([1], [1]), ([2], [2]), ([3, 2, 2], [2, 3]), ([2, 4], [2, 4]), ([5, 4], [5]), ([6], [6]), ([7, 6], [6, 7]), ([8, 6], [6, 8]), ([9, 6], [6, 9]), ([6, 10], [6, 10]), ([11, 6], [11]), ([12], [12]), ([13, 12], [12, 13]), ([12, 14], [12, 14]), ([15, 12], [15]), ([16], [16]), ([16], [16]), ([18, 16, 16], [16, 18]), ([17, 19, 19, 16], [16, 17, 19]), ([16, 20], [16, 20]), ([21, 20, 0, 1, 2, 3, 4, 5, 6, 7, 8, 9, 10, 11, 12, 13, 14, 15, 16, 17, 18, 19, 20, 21], [21])])
def carousellaw6_awake.B3 : List Nat := [0, 1, 3, 7, 15, 31, 63, 127, 255, 511, 1023, 2047, 4095, 8191, 16383, 32767, 65535, 131071, 131071, 393215, 1048575, 2097151, 4194303]
theorem carousellaw6_awake.tab3 : rtab .any (opsOf Try.f11 3) = carousellaw6_awake.T3 := by kernel_rfl
theorem carousellaw6_awake.bits3 : waitsOk carousellaw6_awake.T3.2 carousellaw6_awake.B3 = true := by kernel_rfl
set_option maxHeartbeats 8000000 in
set_option maxRecDepth 100000 in
theorem carousellaw6_awake.calls (k : Nat)  (r : Bool) (w : World) (h : carousellaw6_awake.f k  = some r) :
  Calls Try.prog 11 #[] w fun e w' => e = .returned (.bool r) ∧ Below w.heap.size w w' := by
 have hu27 := Try.underlying27
 have HB := Aside0.mk (Below.refl w.heap.size w)
 have H : ((tens_New.f k (([2, 3] : List Int)) 4294967296).bind fun bt195 => ((tens_Fold.f k bt195.1 bt195.2.1 (([3] : List Int))).bind fun bt206 => (if bt195.2.2 = 0 then ((tens_Good.f k bt195.1 bt195.2.1).bind fun t214 => (if t214 = true then (if (bt195.2.1.length : Int) = 6 then (if bt206.2.2 = 0 then ((carousellaw6_row.f (([8589934592, 8589934592, 8589934592] : List Int))).bind fun bt218 => ((tens_Same.f k bt206.1 bt206.2.1 bt218.1 bt218.2).bind fun t224 => (some t224))) else (none)) else (none)) else (none))) else (none)))) = some r := h
 clear h
 obtain ⟨y192, hy192⟩ : ∃ y_ : List Int, y_ = (([2, 3] : List Int)) := ⟨_, rfl⟩
 replace H : ((tens_New.f k y192 4294967296).bind fun bt195 => ((tens_Fold.f k bt195.1 bt195.2.1 (([3] : List Int))).bind fun bt206 => (if bt195.2.2 = 0 then ((tens_Good.f k bt195.1 bt195.2.1).bind fun t214 => (if t214 = true then (if (bt195.2.1.length : Int) = 6 then (if bt206.2.2 = 0 then ((carousellaw6_row.f (([8589934592, 8589934592, 8589934592] : List Int))).bind fun bt218 => ((tens_Same.f k bt206.1 bt206.2.1 bt218.1 bt218.2).bind fun t224 => (some t224))) else (none)) else (none)) else (none))) else (none)))) = some r := by first | (rw [hy192]; with_reducible exact H) | (have H2_ := (Option.bind_some _ _).symm.trans H; rw [hy192]; with_reducible exact H2_) | (have H2_ := (Option.bind_some _ _).symm.trans H; with_reducible exact H2_) | with_reducible exact H | (rw [hy192]; exact H) | exact H
 have Ny192 := Aside0.mk hy192
 clear hy192
 replace H := Option.bind_eq_some_iff.mp H
 obtain ⟨⟨t195, t198, t201⟩, A10, H⟩ := H
 (try dsimp only at H)
 have A1 := Aside0.mk A10
 clear A10
 obtain ⟨y203, hy203⟩ : ∃ y_ : List Int, y_ = (([3] : List Int)) := ⟨_, rfl⟩
 replace H : ((tens_Fold.f k t195 t198 y203).bind fun bt206 => (if t201 = 0 then ((tens_Good.f k t195 t198).bind fun t214 => (if t214 = true then (if (t198.length : Int) = 6 then (if bt206.2.2 = 0 then ((carousellaw6_row.f (([8589934592, 8589934592, 8589934592] : List Int))).bind fun bt218 => ((tens_Same.f k bt206.1 bt206.2.1 bt218.1 bt218.2).bind fun t224 => (some t224))) else (none)) else (none)) else (none))) else (none))) = some r := by first | (rw [hy203]; with_reducible exact H) | (have H2_ := (Option.bind_some _ _).symm.trans H; rw [hy203]; with_reducible exact H2_) | (have H2_ := (Option.bind_some _ _).symm.trans H; with_reducible exact H2_) | with_reducible exact H | (rw [hy203]; exact H) | exact H
 have Ny203 := Aside0.mk hy203
 clear hy203
 replace H := Option.bind_eq_some_iff.mp H
 obtain ⟨⟨t206, t209, t212⟩, A20, H⟩ := H
 (try dsimp only at H)
 have A2 := Aside0.mk A20
 clear A20
 by_cases c3 : t201 = 0
 rotate_left
 ·rw [if_neg c3] at H
  have c3b0 : (t201 == 0) = false := beq_eq_false_iff_ne.mpr c3
  have c3b1 : (t201 != 0) = true := bne_iff_ne.mpr c3
  exact absurd H (by simp)
 rw [if_pos c3] at H
 have c3b0 : (t201 == 0) = true := beq_iff_eq.mpr c3
 have c3b1 : (t201 != 0) = false := bne_eq_false_iff_eq.mpr c3
 clear c3
 replace H := Option.bind_eq_some_iff.mp H
 obtain ⟨t214, A40, H⟩ := H
 (try dsimp only at H)
 have A4 := Aside0.mk A40
 clear A40
 by_cases c5 : t214 = true
 rotate_left
 ·replace c5 := Bool.eq_false_iff.mpr c5
  subst c5
  have H1 : (none) = some r := by rw [if_neg (show ¬ (false = true) by decide)] at H; exact H
  clear H
  have H := H1
  clear H1
  exact absurd H (by simp)
 subst c5
 have H1 := H
 rw [if_pos rfl] at H1
 clear H
 have H := H1
 clear H1
 by_cases c6 : (t198.length : Int) = 6
 rotate_left
 ·rw [if_neg c6] at H
  have c6b0 : ((t198.length : Int) == 6) = false := beq_eq_false_iff_ne.mpr c6
  have c6b1 : ((t198.length : Int) != 6) = true := bne_iff_ne.mpr c6
  exact absurd H (by simp)
 rw [if_pos c6] at H
 have c6b0 : ((t198.length : Int) == 6) = true := beq_iff_eq.mpr c6
 have c6b1 : ((t198.length : Int) != 6) = false := bne_eq_false_iff_eq.mpr c6
 clear c6
 by_cases c7 : t212 = 0
 rotate_left
 ·rw [if_neg c7] at H
  have c7b0 : (t212 == 0) = false := beq_eq_false_iff_ne.mpr c7
  have c7b1 : (t212 != 0) = true := bne_iff_ne.mpr c7
  exact absurd H (by simp)
 rw [if_pos c7] at H
 have c7b0 : (t212 == 0) = true := beq_iff_eq.mpr c7
 have c7b1 : (t212 != 0) = false := bne_eq_false_iff_eq.mpr c7
 clear c7
 obtain ⟨y215, hy215⟩ : ∃ y_ : List Int, y_ = (([8589934592, 8589934592, 8589934592] : List Int)) := ⟨_, rfl⟩
 replace H : ((carousellaw6_row.f y215).bind fun bt218 => ((tens_Same.f k t206 t209 bt218.1 bt218.2).bind fun t224 => (some t224))) = some r := by first | (rw [hy215]; with_reducible exact H) | (have H2_ := (Option.bind_some _ _).symm.trans H; rw [hy215]; with_reducible exact H2_) | (have H2_ := (Option.bind_some _ _).symm.trans H; with_reducible exact H2_) | with_reducible exact H | (rw [hy215]; exact H) | exact H
 have Ny215 := Aside0.mk hy215
 clear hy215
 replace H := Option.bind_eq_some_iff.mp H
 obtain ⟨⟨t218, t221⟩, A80, H⟩ := H
 replace H : ((tens_Same.f k t206 t209 t218 t221).bind fun t224 => (some t224)) = some r := H
 have A8 := Aside0.mk A80
 clear A80
 replace H := Option.bind_eq_some_iff.mp H
 obtain ⟨t224, A90, H⟩ := H
 replace H : (some t224) = some r := H
 have A9 := Aside0.mk A90
 clear A90
 obtain rfl := Option.some.inj H
 go_enter Try.func11, Try.ntmps11
 try go_wp2_with (first | ((with_reducible refine gate_dst (N := 6) rfl ?_); (try (refine gate_guard (by rfl) ?_; dsimp only)); refine Kd.R_lit (Kd.int .i64) _ 3 ?hg (N := 6) ?hd (xs := ([2, 3] : List Int)) (inner := [.int .i64 2, .int .i64 3]) (ok := fun _ => True) (okp := fun _ => True) ?hr ?hp (fun _ hk => hk) trivial (Below.refl _ _) (Nat.le_refl _) (by simp) ?_; (case hd => rfl); (case hg => rfl); (case hr => first | (go_simp; done) | (go_simp; rfl)); (case hp => exact (Reps.one (show Kd.M (Kd.int .i64) _ _ _ 2 [.int .i64 2] from rfl) (Reps.one (show Kd.M (Kd.int .i64) _ _ _ 3 [.int .i64 3] from rfl) (Reps.none _ _)))); intro v193 w10 ho11 hb hg_ hnew_; clear hg_ hnew_; (first | rw [← Ny192.out] at ho11 | (simp only [Int.reduceToNat] at ho11; rw [← Ny192.out] at ho11)); have HO194 := Aside0.mk (Kd.R_lower ho11 (below_size (zw0_ HB))); replace HB := Aside0.mk (below_step (zw0_ HB) hb); clear hb ho11; obtain ⟨Ao12, co12, eo12⟩ := Kd.R_slice HO194.out; subst eo12) | ((with_reducible refine gate_callee (f := 12) rfl ?_); refine zg_ (some 7) Try.func12 #[.slice Ao12 y192.length co12, .int .i64 4294967296] (h := ?_); (with_reducible refine (tens_New.calls k _ _ y192 4294967296 t195 t198 t201 _ ?side1 ?side2 A1.out).mono ?_); (case side1 => exact zk_ ((Kd.R_reads' HO194.out).2.2)); (case side2 => exact (Kd.R_reads' HO194.out).2.1); rintro e w13 ⟨v196, v199, rfl, ho0, ho1, hb⟩; refine ⟨_, rfl, ?_⟩; have HO197 := Aside0.mk (Kd.R_lower (Kd.R_new' ho0 (Kd.R_lt (zr_ HO194.out))) (below_size (zw0_ HB))); replace HO194 := ze_ HO194 ho0 hb; have HO200 := Aside0.mk (Kd.R_lower ho1 (below_size (zw0_ HB))); replace HB := Aside0.mk (below_step (zw0_ HB) hb); (try clear hb); (try clear ho0); (try clear ho1)) | ((with_reducible refine gate_dst (N := 1) rfl ?_); (try (refine gate_guard (by rfl) ?_; dsimp only)); refine box_event ?hg (N := 1) ?hd (cs := #[.slice none 0 0, .slice none 0 0]) (t := 27) ?hr ?_; (case hd => rfl); (case hg => rfl); (case hr => first | (go_simp; done) | (go_simp; rfl)); intro gb202 hg w14 hbox hb; replace HO194 := zy_ HO194 hb; replace HO197 := zy_ HO197 hb; replace HO200 := zy_ HO200 hb; have BK202 := Aside0.mk (hbox); have GW202 := Aside0.mk (zs_ hg (zw0_ HB)); have GE202 := Aside0.mk (zs_ hg (zw0_ HB)); replace HB := Aside0.mk (below_step (zw0_ HB) hb); clear hb hbox hg; obtain ⟨Ao15, co15, eo15⟩ := Kd.R_slice HO197.out; subst eo15; have hcz16_0 := zx_ (v := .slice none 0 0) BK202 0; have hcz16_1 := zx_ (v := .slice none 0 0) BK202 1; have hfz16_0 := blk_frozen BK202.out 0; have hfz16_1 := blk_frozen BK202.out 1; obtain ⟨Ao17, co17, eo17⟩ := Kd.R_slice HO200.out; subst eo17) | ((with_reducible refine gate_dst (N := 12) rfl ?_); (try (refine gate_guard (by rfl) ?_; dsimp only)); refine Kd.R_lit (Kd.int .i64) _ 3 ?hg (N := 12) ?hd (xs := ([3] : List Int)) (inner := [.int .i64 3]) (ok := fun _ => True) (okp := fun _ => True) ?hr ?hp (fun _ hk => hk) trivial (Below.refl _ _) (Nat.le_refl _) (by simp) ?_; (case hd => rfl); (case hg => rfl); (case hr => first | (go_simp; done) | (go_simp; rfl)); (case hp => exact (Reps.one (show Kd.M (Kd.int .i64) _ _ _ 3 [.int .i64 3] from rfl) (Reps.none _ _))); intro v204 w18 ho19 hb hg_ hnew_; clear hg_ hnew_; (first | rw [← Ny203.out] at ho19 | (simp only [Int.reduceToNat] at ho19; rw [← Ny203.out] at ho19)); replace HO200 := Aside0.mk (Kd.R_below (zr_ ((zf_ HO200 BK202 (.slice Ao15 t195.length co15) (.slice Ao17 t198.length co17)))) hb); have HO205 := Aside0.mk (Kd.R_lower (Kd.R_new' (Kd.R_new' ho19 (Kd.R_lt (zr_ ((zf_ HO194 BK202 (.slice Ao15 t195.length co15) (.slice Ao17 t198.length co17)))))) (Kd.R_lt (zr_ ((zf_ HO197 BK202 (.slice Ao15 t195.length co15) (.slice Ao17 t198.length co17)))))) (below_size (zw1_ HB GE202))); replace HO194 := Aside0.mk (Kd.R_elder' (zr_ ((zf_ HO194 BK202 (.slice Ao15 t195.length co15) (.slice Ao17 t198.length co17)))) (Kd.R_base ho19) hb); replace HO197 := Aside0.mk (Kd.R_elder' (zr_ ((zf_ HO197 BK202 (.slice Ao15 t195.length co15) (.slice Ao17 t198.length co17)))) (Kd.R_base ho19) hb); replace BK202 := Aside0.mk (blk_below (g := gb202) (o := .cells #[.slice Ao15 t195.length co15, .slice Ao17 t198.length co17] 27 (0, 0)) (zo2_ BK202) hb); replace HB := Aside0.mk (below_step (zw1_ HB GE202) hb); clear hb ho19; obtain ⟨Ao20, co20, eo20⟩ := Kd.R_slice HO205.out; subst eo20) | ((with_reducible refine gate_callee (f := 26) rfl ?_); refine zg_ (some 13) Try.func26 #[.agg #[.slice Ao15 t195.length co15, .slice Ao17 t198.length co17], .slice Ao20 y203.length co20] (h := ?_); (with_reducible refine (tens_Fold.calls k _ _ t195 _ _ t198 _ _ y203 t206 t209 t212 _ ?side1 ?side2 ?side3 ?side4 ?side5 ?side6 A2.out).mono ?_); (case side1 => exact zk_ ((Kd.R_reads' HO197.out).2.2)); (case side2 => exact (Kd.R_reads' HO197.out).2.1); (case side3 => exact zk_ ((Kd.R_reads' HO200.out).2.2)); (case side4 => exact (Kd.R_reads' HO200.out).2.1); (case side5 => exact zk_ ((Kd.R_reads' HO205.out).2.2)); (case side6 => exact (Kd.R_reads' HO205.out).2.1); rintro e w21 ⟨v207, v210, rfl, ho0, ho1, hb⟩; refine ⟨_, rfl, ?_⟩; have HO208 := Aside0.mk (Kd.R_lower (Kd.R_new' (Kd.R_new' (Kd.R_new' ho0 (Kd.R_lt (zr_ HO194.out))) (Kd.R_lt (zr_ HO197.out))) (Kd.R_lt (zr_ HO205.out))) (below_size (zw1_ HB GE202))); replace HO194 := ze_ HO194 ho0 hb; replace HO197 := ze_ HO197 ho0 hb; replace HO205 := ze_ HO205 ho0 hb; have HO211 := Aside0.mk (Kd.R_lower (Kd.R_new' ho1 (Kd.R_lt (zr_ HO200.out))) (below_size (zw1_ HB GE202))); replace HO200 := ze_ HO200 ho1 hb; replace BK202 := za_ BK202 hb; replace HB := Aside0.mk (below_step (zw1_ HB GE202) hb); (try clear hb); (try clear ho0); (try clear ho1)) | ((with_reducible refine gate_dst (N := 3) rfl ?_); (try (refine gate_guard (by rfl) ?_; dsimp only)); refine box_event ?hg (N := 3) ?hd (cs := #[.slice none 0 0, .slice none 0 0]) (t := 27) ?hr ?_; (case hd => rfl); (case hg => rfl); (case hr => first | (go_simp; done) | (go_simp; rfl)); intro gb213 hg w22 hbox hb; replace HO194 := zy_ HO194 hb; replace HO197 := zy_ HO197 hb; replace HO200 := zy_ HO200 hb; replace HO205 := zy_ HO205 hb; replace HO208 := zy_ HO208 hb; replace HO211 := zy_ HO211 hb; have BK213 := Aside0.mk (hbox); have GW213 := Aside0.mk (zs_ hg (zw1_ HB GE202)); have GE213 := Aside0.mk (zs_ hg (zw1_ HB GE202)); replace HB := Aside0.mk (below_step (zw1_ HB GE202) hb); have NB202_213 := Aside0.mk (zn_ hg BK202); have NB213_202 := Aside0.mk (zm_ hg BK202); replace BK202 := za_ BK202 hb; clear hb hbox hg; obtain ⟨Ao23, co23, eo23⟩ := Kd.R_slice HO208.out; subst eo23; have hnb24 := NB213_202.out; have hnc24 := NB202_213.out; have hcz25_0 := zx_ (v := .slice none 0 0) BK213 0; have hcz25_1 := zx_ (v := .slice none 0 0) BK213 1; have hfz25_0 := blk_frozen BK213.out 0; have hfz25_1 := blk_frozen BK213.out 1; obtain ⟨Ao26, co26, eo26⟩ := Kd.R_slice HO211.out; subst eo26))
 have n0_ : Aside0 (Kd.R (Kd.int .i64) 3 ((w22.setCell ⟨gb213, 0, none⟩ (.slice Ao23 t206.length co23)).setCell ⟨gb213, 1, none⟩ (.slice Ao26 t209.length co26)) w.heap.size (fun k_ => some k_ ≠ (.slice Ao15 t195.length co15 : Value).ownBlock ∧ some k_ ≠ (.slice Ao20 y203.length co20 : Value).ownBlock ∧ some k_ ≠ (.slice Ao23 t206.length co23 : Value).ownBlock) (.slice Ao12 y192.length co12) y192) := ⟨zr_ (Kd.R_mono (Kd.R_far (p := ⟨gb213, 1, none⟩) (Kd.R_far (p := ⟨gb213, 0, none⟩) (Kd.R_types HO194.out BK213.out (by decide)) (fun _ hk => hk.2) (.slice Ao23 t206.length co23)) (fun _ hk => hk.2) (.slice Ao26 t209.length co26)) (fun _ hk => ⟨hk.1.1.1.2, ⟨hk.1.1.2, hk.1.2⟩⟩))⟩
 have n1_ : Aside0 (Kd.R (Kd.int .i64) 3 ((w22.setCell ⟨gb213, 0, none⟩ (.slice Ao23 t206.length co23)).setCell ⟨gb213, 1, none⟩ (.slice Ao26 t209.length co26)) w.heap.size (fun k_ => some k_ ≠ (.slice Ao12 y192.length co12 : Value).ownBlock ∧ some k_ ≠ (.slice Ao20 y203.length co20 : Value).ownBlock ∧ some k_ ≠ (.slice Ao23 t206.length co23 : Value).ownBlock) (.slice Ao15 t195.length co15) t195) := ⟨zr_ (Kd.R_mono (Kd.R_far (p := ⟨gb213, 1, none⟩) (Kd.R_far (p := ⟨gb213, 0, none⟩) (Kd.R_types HO197.out BK213.out (by decide)) (fun _ hk => hk.2) (.slice Ao23 t206.length co23)) (fun _ hk => hk.2) (.slice Ao26 t209.length co26)) (fun _ hk => ⟨hk.1.1.1.2, ⟨hk.1.1.2, hk.1.2⟩⟩))⟩
 have n2_ : Aside0 (Kd.R (Kd.int .i64) 23 ((w22.setCell ⟨gb213, 0, none⟩ (.slice Ao23 t206.length co23)).setCell ⟨gb213, 1, none⟩ (.slice Ao26 t209.length co26)) w.heap.size (fun k_ => some k_ ≠ (.slice Ao26 t209.length co26 : Value).ownBlock) (.slice Ao17 t198.length co17) t198) := ⟨zr_ (Kd.R_mono (Kd.R_far (p := ⟨gb213, 1, none⟩) (Kd.R_far (p := ⟨gb213, 0, none⟩) (Kd.R_types HO200.out BK213.out (by decide)) (fun _ hk => hk.2) (.slice Ao23 t206.length co23)) (fun _ hk => hk.2) (.slice Ao26 t209.length co26)) (fun _ hk => hk.1.2))⟩
 have n3_ : Aside0 (Kd.R (Kd.int .i64) 3 ((w22.setCell ⟨gb213, 0, none⟩ (.slice Ao23 t206.length co23)).setCell ⟨gb213, 1, none⟩ (.slice Ao26 t209.length co26)) w.heap.size (fun k_ => some k_ ≠ (.slice Ao12 y192.length co12 : Value).ownBlock ∧ some k_ ≠ (.slice Ao15 t195.length co15 : Value).ownBlock ∧ some k_ ≠ (.slice Ao23 t206.length co23 : Value).ownBlock) (.slice Ao20 y203.length co20) y203) := ⟨zr_ (Kd.R_mono (Kd.R_far (p := ⟨gb213, 1, none⟩) (Kd.R_far (p := ⟨gb213, 0, none⟩) (Kd.R_types HO205.out BK213.out (by decide)) (fun _ hk => hk.2) (.slice Ao23 t206.length co23)) (fun _ hk => hk.2) (.slice Ao26 t209.length co26)) (fun _ hk => ⟨hk.1.1.1.2, ⟨hk.1.1.2, hk.1.2⟩⟩))⟩
 have n4_ : Aside0 (Kd.R (Kd.int .i64) 3 ((w22.setCell ⟨gb213, 0, none⟩ (.slice Ao23 t206.length co23)).setCell ⟨gb213, 1, none⟩ (.slice Ao26 t209.length co26)) w.heap.size (fun k_ => some k_ ≠ (.slice Ao12 y192.length co12 : Value).ownBlock ∧ some k_ ≠ (.slice Ao15 t195.length co15 : Value).ownBlock ∧ some k_ ≠ (.slice Ao20 y203.length co20 : Value).ownBlock) (.slice Ao23 t206.length co23) t206) := ⟨zr_ (Kd.R_mono (Kd.R_far (p := ⟨gb213, 1, none⟩) (Kd.R_far (p := ⟨gb213, 0, none⟩) (Kd.R_types HO208.out BK213.out (by decide)) (fun _ hk => hk.2) (.slice Ao23 t206.length co23)) (fun _ hk => hk.2) (.slice Ao26 t209.length co26)) (fun _ hk => ⟨hk.1.1.1.2, ⟨hk.1.1.2, hk.1.2⟩⟩))⟩
 have n5_ : Aside0 (Kd.R (Kd.int .i64) 23 ((w22.setCell ⟨gb213, 0, none⟩ (.slice Ao23 t206.length co23)).setCell ⟨gb213, 1, none⟩ (.slice Ao26 t209.length co26)) w.heap.size (fun k_ => some k_ ≠ (.slice Ao17 t198.length co17 : Value).ownBlock) (.slice Ao26 t209.length co26) t209) := ⟨zr_ (Kd.R_mono (Kd.R_far (p := ⟨gb213, 1, none⟩) (Kd.R_far (p := ⟨gb213, 0, none⟩) (Kd.R_types HO211.out BK213.out (by decide)) (fun _ hk => hk.2) (.slice Ao23 t206.length co23)) (fun _ hk => hk.2) (.slice Ao26 t209.length co26)) (fun _ hk => hk.1.2))⟩
 have n6_ : Aside0 (((w22.setCell ⟨gb213, 0, none⟩ (.slice Ao23 t206.length co23)).setCell ⟨gb213, 1, none⟩ (.slice Ao26 t209.length co26)).heap[gb202]? = some (.cells #[.slice Ao15 t195.length co15, .slice Ao17 t198.length co17] 27 (0, 0))) := ⟨zv1_ BK202 NB202_213⟩
 have n7_ : Aside0 (((w22.setCell ⟨gb213, 0, none⟩ (.slice Ao23 t206.length co23)).setCell ⟨gb213, 1, none⟩ (.slice Ao26 t209.length co26)).heap[gb213]? = some (.cells #[.slice Ao23 t206.length co23, .slice Ao26 t209.length co26] 27 (0, 0))) := ⟨zo2_ BK213⟩
 have n8_ : Aside0 (Below w.heap.size w ((w22.setCell ⟨gb213, 0, none⟩ (.slice Ao23 t206.length co23)).setCell ⟨gb213, 1, none⟩ (.slice Ao26 t209.length co26))) := ⟨zw2_ HB GE202 GE213⟩
 (try clear HO194)
 (try clear HO197)
 (try clear HO200)
 (try clear HO205)
 (try clear HO208)
 (try clear HO211)
 (try clear BK202)
 (try clear BK213)
 (try clear HB)
 generalize ((w22.setCell ⟨gb213, 0, none⟩ (.slice Ao23 t206.length co23)).setCell ⟨gb213, 1, none⟩ (.slice Ao26 t209.length co26)) = w27 at n0_ n1_ n2_ n3_ n4_ n5_ n6_ n7_ n8_ ⊢
 have HO194 := n0_
 have HO197 := n1_
 have HO200 := n2_
 have HO205 := n3_
 have HO208 := n4_
 have HO211 := n5_
 have BK202 := n6_
 have BK213 := n7_
 have HB := n8_
 clear n0_ n1_ n2_ n3_ n4_ n5_ n6_ n7_ n8_
 replace HO194 := Aside0.mk (Kd.R_drew HO194.out)
 replace HO197 := Aside0.mk (Kd.R_drew HO197.out)
 replace HO200 := Aside0.mk (Kd.R_drew HO200.out)
 replace HO205 := Aside0.mk (Kd.R_drew HO205.out)
 replace HO208 := Aside0.mk (Kd.R_drew HO208.out)
 replace HO211 := Aside0.mk (Kd.R_drew HO211.out)
 replace BK202 := Aside0.mk (blk_drew BK202.out)
 replace BK213 := Aside0.mk (blk_drew BK213.out)
 replace HB := Aside0.mk (below_drew1 HB.out)
 refine start_ (n := 23) (S := fun w' => w'.cell? ⟨gb202, 0, none⟩ = some (.slice Ao15 t195.length co15) ∧ w'.cell? ⟨gb202, 1, none⟩ = some (.slice Ao17 t198.length co17) ∧ w'.cell? ⟨gb213, 0, none⟩ = some (.slice Ao23 t206.length co23) ∧ w'.cell? ⟨gb213, 1, none⟩ = some (.slice Ao26 t209.length co26)) (ds := []) #[false, false, false, false, false, false, false, false, false, false, false, false, false, false, false, false, false, false, false, false, false, false, false] (by kernel_rfl) rfl rfl ⟨(blk_cell BK202.out 0).trans rfl, (blk_cell BK202.out 1).trans rfl, (blk_cell BK213.out 0).trans rfl, (blk_cell BK213.out 1).trans rfl⟩ (fun hHeld => ?_); refine with_tabW carousellaw6_awake.tab3 carousellaw6_awake.bits3 (fun HT_ HW_ => ?_)
 generalize w27.drew = w28 at HO194 HO197 HO200 HO205 HO208 HO211 BK202 BK213 HB hHeld ⊢
 refine yp_ ?_ 0 16
 refine yp_ ?_ 1 17
 refine yp_ ?_ 2 18
 refine yt4_ ?_ 3 19
 refine yo_ 4 (some 20) (fun K hK => ?_)
 refine yg_ Try.func16 #[.agg #[.slice Ao15 t195.length co15, .slice Ao17 t198.length co17]] ?_
 with_reducible refine (tens_Good.calls k _ _ t195 _ _ t198 true _ ?side1 ?side2 ?side3 ?side4 A4.out).mono ?_
 (case side1 => exact zk_ ((Kd.R_reads' HO197.out).2.2))
 (case side2 => exact (Kd.R_reads' HO197.out).2.1)
 (case side3 => exact zk_ ((Kd.R_reads' HO200.out).2.2))
 (case side4 => exact (Kd.R_reads' HO200.out).2.1)
 rintro e w29 ⟨rfl, hb⟩
 refine ⟨_, rfl, ?_⟩
 replace HO194 := zy_ HO194 hb
 replace HO197 := zy_ HO197 hb
 replace HO200 := zy_ HO200 hb
 replace HO205 := zy_ HO205 hb
 replace HO208 := zy_ HO208 hb
 replace HO211 := zy_ HO211 hb
 replace BK202 := za_ BK202 hb
 replace BK213 := za_ BK213 hb
 replace HB := Aside0.mk (below_step (zw2_ HB GE202 GE213) hb)
 (try clear hb)
 (try clear hb2)
 (try clear hk)
 (try clear hi)
 refine hK.out _ _ ⟨zx_ BK202 0, zx_ BK202 1, zx_ BK213 0, zx_ BK213 1⟩ (fun hHeld => ?_)
 clear hK K
 refine zq_ (some 20) (h := ?_)
 refine yp_ ?_ 5 21
 refine yp_ ?_ 6 22
 refine yp_ ?_ 7 23
 refine yt4_ ?_ 8 24
 refine yp_ ?_ 9 25
 refine yp_ ?_ 10 26
 refine yp_ ?_ 11 27
 refine yp_ ?_ 12 28
 refine yp_ ?_ 13 29
 refine yp_ ?_ 14 30
 refine yp_ ?_ 15 31
 refine yp_ ?_ 16 32
 refine yt4_ ?_ 17 33
 refine yo_ 18 (some 34) (fun K hK => ?_)
 refine Kd.R_lit_step (Kd.int .i64) _ 23 ?hg (N := 34) ?hd (xs := ([8589934592, 8589934592, 8589934592] : List Int)) (inner := [.int .i64 8589934592, .int .i64 8589934592, .int .i64 8589934592]) (ok := fun _ => True) (okp := fun _ => True) ?hr ?hp (fun _ hk => hk) trivial (Below.refl _ _) (Nat.le_refl _) (by simp) ?_; (case hd => rfl); (case hg => rfl); (case hr => first | (go_simp; done) | (go_simp; rfl)); (case hp => exact (Reps.one (show Kd.M (Kd.int .i64) _ _ _ 8589934592 [.int .i64 8589934592] from rfl) (Reps.one (show Kd.M (Kd.int .i64) _ _ _ 8589934592 [.int .i64 8589934592] from rfl) (Reps.one (show Kd.M (Kd.int .i64) _ _ _ 8589934592 [.int .i64 8589934592] from rfl) (Reps.none _ _)))))
 intro v216 w30 ho31 hb hg_ hnew_
 clear hg_ hnew_
 (first | rw [← Ny215.out] at ho31 | (simp only [Int.reduceToNat] at ho31; rw [← Ny215.out] at ho31))
 replace HO194 := zy_ HO194 hb
 replace HO197 := zy_ HO197 hb
 replace HO205 := zy_ HO205 hb
 replace HO208 := zy_ HO208 hb
 have HO217 := Aside0.mk (Kd.R_lower (Kd.R_new' (Kd.R_new' ho31 (Kd.R_lt (zr_ HO200.out))) (Kd.R_lt (zr_ HO211.out))) (below_size (zw2_ HB GE202 GE213)))
 replace HO200 := ze_ HO200 ho31 hb
 replace HO211 := ze_ HO211 ho31 hb
 replace BK202 := za_ BK202 hb
 replace BK213 := za_ BK213 hb
 replace HB := Aside0.mk (below_step (zw2_ HB GE202 GE213) hb)
 clear hb ho31
 obtain ⟨Ao32, co32, eo32⟩ := Kd.R_slice HO217.out
 (first | subst eo32 | (injection eo32 with f1_ f2_ f3_; have f4_ := f1_.symm; have f5_ := f3_.symm; clear f1_ f2_ f3_; subst f4_; subst f5_))
 refine hK.out _ _ ⟨zx_ BK202 0, zx_ BK202 1, zx_ BK213 0, zx_ BK213 1⟩ (fun hHeld => ?_)
 clear hK K
 refine zq_ (some 34) (h := ?_)
 refine yo_ 19 (some 35) (fun K hK => ?_)
 refine yg_ Try.func28 #[.slice Ao32 y215.length co32] ?_
 with_reducible refine (carousellaw6_row.calls (fun k_ => some k_ = (.slice Ao32 y215.length co32 : Value).ownBlock) (.slice Ao32 y215.length co32) y215 t218 t221 w _ ?side1 ?side2 A8.out).mono ?_
 (case side1 => repeat (first | (with_reducible first | exact HB.out | apply below_alloc | apply pw_below_drewN | apply below_drew1 | refine below_set ?_ GE202.out | refine below_set ?_ GE213.out) | exact HB.out))
 (case side2 => exact Kd.R_tight rfl HO217.out)
 rintro e w33 ⟨v219, v222, rfl, ho0, ho1, hb, hkp⟩
 refine ⟨_, rfl, ?_⟩
 replace BK202 := Aside0.mk (blk_kept (zb_ BK202) hkp (fun hs_ => (fun e_ => (Kd.R_ne HO217.out BK202.out (by decide)) e_) hs_))
 replace BK213 := Aside0.mk (blk_kept (zb_ BK213) hkp (fun hs_ => (fun e_ => (Kd.R_ne HO217.out BK213.out (by decide)) e_) hs_))
 have HO220 := Aside0.mk (Kd.R_mono (ok' := fun k_ => some k_ ≠ (.slice Ao12 y192.length co12 : Value).ownBlock ∧ some k_ ≠ (.slice Ao15 t195.length co15 : Value).ownBlock ∧ some k_ ≠ (.slice Ao20 y203.length co20 : Value).ownBlock ∧ some k_ ≠ (.slice Ao23 t206.length co23 : Value).ownBlock) ho0 (fun k_ hk_ => ⟨Or.elim hk_ (fun hs_ => fun e_ => ((((Kd.R_apart' HO194.out (Kd.R_typed HO217.out) (by decide))).1 k_ e_.symm).2) hs_) (fun hn_ => (Kd.fresh' (Kd.R_lt (zr_ HO194.out)) k_ hn_)), Or.elim hk_ (fun hs_ => fun e_ => ((((Kd.R_apart' HO197.out (Kd.R_typed HO217.out) (by decide))).1 k_ e_.symm).2) hs_) (fun hn_ => (Kd.fresh' (Kd.R_lt (zr_ HO197.out)) k_ hn_)), Or.elim hk_ (fun hs_ => fun e_ => ((((Kd.R_apart' HO205.out (Kd.R_typed HO217.out) (by decide))).1 k_ e_.symm).2) hs_) (fun hn_ => (Kd.fresh' (Kd.R_lt (zr_ HO205.out)) k_ hn_)), Or.elim hk_ (fun hs_ => fun e_ => ((((Kd.R_apart' HO208.out (Kd.R_typed HO217.out) (by decide))).1 k_ e_.symm).2) hs_) (fun hn_ => (Kd.fresh' (Kd.R_lt (zr_ HO208.out)) k_ hn_))⟩))
 replace HO194 := Aside0.mk (Kd.R_mono (ok' := fun k_ => some k_ ≠ (.slice Ao15 t195.length co15 : Value).ownBlock ∧ some k_ ≠ (.slice Ao20 y203.length co20 : Value).ownBlock ∧ some k_ ≠ (.slice Ao23 t206.length co23 : Value).ownBlock ∧ some k_ ≠ (v219 : Value).ownBlock) (Kd.R_keptB ((Kd.R_apart' HO194.out (Kd.R_typed HO217.out) (by decide))) hkp (fun k_ hk_ hs_ => (hk_.2) hs_)) (fun k_ hk_ => ⟨hk_.1.1.1, hk_.1.1.2.1, hk_.1.1.2.2, fun e_ => Or.elim (ho0.1 k_ e_.symm) (fun hs_ => hk_.2.1 hs_) (fun hn_ => Nat.not_le.2 hk_.2.2 hn_)⟩))
 replace HO197 := Aside0.mk (Kd.R_mono (ok' := fun k_ => some k_ ≠ (.slice Ao12 y192.length co12 : Value).ownBlock ∧ some k_ ≠ (.slice Ao20 y203.length co20 : Value).ownBlock ∧ some k_ ≠ (.slice Ao23 t206.length co23 : Value).ownBlock ∧ some k_ ≠ (v219 : Value).ownBlock) (Kd.R_keptB ((Kd.R_apart' HO197.out (Kd.R_typed HO217.out) (by decide))) hkp (fun k_ hk_ hs_ => (hk_.2) hs_)) (fun k_ hk_ => ⟨hk_.1.1.1, hk_.1.1.2.1, hk_.1.1.2.2, fun e_ => Or.elim (ho0.1 k_ e_.symm) (fun hs_ => hk_.2.1 hs_) (fun hn_ => Nat.not_le.2 hk_.2.2 hn_)⟩))
 replace HO205 := Aside0.mk (Kd.R_mono (ok' := fun k_ => some k_ ≠ (.slice Ao12 y192.length co12 : Value).ownBlock ∧ some k_ ≠ (.slice Ao15 t195.length co15 : Value).ownBlock ∧ some k_ ≠ (.slice Ao23 t206.length co23 : Value).ownBlock ∧ some k_ ≠ (v219 : Value).ownBlock) (Kd.R_keptB ((Kd.R_apart' HO205.out (Kd.R_typed HO217.out) (by decide))) hkp (fun k_ hk_ hs_ => (hk_.2) hs_)) (fun k_ hk_ => ⟨hk_.1.1.1, hk_.1.1.2.1, hk_.1.1.2.2, fun e_ => Or.elim (ho0.1 k_ e_.symm) (fun hs_ => hk_.2.1 hs_) (fun hn_ => Nat.not_le.2 hk_.2.2 hn_)⟩))
 replace HO208 := Aside0.mk (Kd.R_mono (ok' := fun k_ => some k_ ≠ (.slice Ao12 y192.length co12 : Value).ownBlock ∧ some k_ ≠ (.slice Ao15 t195.length co15 : Value).ownBlock ∧ some k_ ≠ (.slice Ao20 y203.length co20 : Value).ownBlock ∧ some k_ ≠ (v219 : Value).ownBlock) (Kd.R_keptB ((Kd.R_apart' HO208.out (Kd.R_typed HO217.out) (by decide))) hkp (fun k_ hk_ hs_ => (hk_.2) hs_)) (fun k_ hk_ => ⟨hk_.1.1.1, hk_.1.1.2.1, hk_.1.1.2.2, fun e_ => Or.elim (ho0.1 k_ e_.symm) (fun hs_ => hk_.2.1 hs_) (fun hn_ => Nat.not_le.2 hk_.2.2 hn_)⟩))
 have HO223 := Aside0.mk (Kd.R_mono (ok' := fun k_ => some k_ ≠ (.slice Ao17 t198.length co17 : Value).ownBlock ∧ some k_ ≠ (.slice Ao26 t209.length co26 : Value).ownBlock) ho1 (fun k_ hk_ => ⟨Or.elim hk_ (fun hs_ => fun e_ => (((HO200.out).1 k_ e_.symm).2) hs_) (fun hn_ => (Kd.fresh' (Kd.R_lt (zr_ HO200.out)) k_ hn_)), Or.elim hk_ (fun hs_ => fun e_ => (((HO211.out).1 k_ e_.symm).2) hs_) (fun hn_ => (Kd.fresh' (Kd.R_lt (zr_ HO211.out)) k_ hn_))⟩))
 replace HO200 := Aside0.mk (Kd.R_mono (ok' := fun k_ => some k_ ≠ (.slice Ao26 t209.length co26 : Value).ownBlock ∧ some k_ ≠ (v222 : Value).ownBlock) (Kd.R_keptB (HO200.out) hkp (fun k_ hk_ hs_ => (hk_.2) hs_)) (fun k_ hk_ => ⟨hk_.1.1, fun e_ => Or.elim (ho1.1 k_ e_.symm) (fun hs_ => hk_.2.1 hs_) (fun hn_ => Nat.not_le.2 hk_.2.2 hn_)⟩))
 replace HO211 := Aside0.mk (Kd.R_mono (ok' := fun k_ => some k_ ≠ (.slice Ao17 t198.length co17 : Value).ownBlock ∧ some k_ ≠ (v222 : Value).ownBlock) (Kd.R_keptB (HO211.out) hkp (fun k_ hk_ hs_ => (hk_.2) hs_)) (fun k_ hk_ => ⟨hk_.1.1, fun e_ => Or.elim (ho1.1 k_ e_.symm) (fun hs_ => hk_.2.1 hs_) (fun hn_ => Nat.not_le.2 hk_.2.2 hn_)⟩))
 replace HB := Aside0.mk (hb)
 clear HO217
 (try clear hb)
 (try clear hkp)
 (try clear ho0)
 (try clear ho1)
 obtain ⟨Ao34, co34, eo34⟩ := Kd.R_slice HO220.out
 (first | subst eo34 | (injection eo34 with f1_ f2_ f3_; have f4_ := f1_.symm; have f5_ := f3_.symm; clear f1_ f2_ f3_; subst f4_; subst f5_))
 obtain ⟨Ao35, co35, eo35⟩ := Kd.R_slice HO223.out
 (first | subst eo35 | (injection eo35 with f1_ f2_ f3_; have f4_ := f1_.symm; have f5_ := f3_.symm; clear f1_ f2_ f3_; subst f4_; subst f5_))
 refine hK.out _ _ ⟨zx_ BK202 0, zx_ BK202 1, zx_ BK213 0, zx_ BK213 1⟩ (fun hHeld => ?_)
 clear hK K
 refine zq_ (some 35) (h := ?_)
 refine yo_ 20 (some 36) (fun K hK => ?_)
 refine yg_ Try.func21 #[.agg #[.slice Ao23 t206.length co23, .slice Ao26 t209.length co26], .agg #[.slice Ao34 t218.length co34, .slice Ao35 t221.length co35]] ?_
 with_reducible refine (tens_Same.calls k _ _ t206 _ _ t209 _ _ t218 _ _ t221 t224 _ ?side1 ?side2 ?side3 ?side4 ?side5 ?side6 ?side7 ?side8 A9.out).mono ?_
 (case side1 => exact zk_ ((Kd.R_reads' HO208.out).2.2))
 (case side2 => exact (Kd.R_reads' HO208.out).2.1)
 (case side3 => exact zk_ ((Kd.R_reads' HO211.out).2.2))
 (case side4 => exact (Kd.R_reads' HO211.out).2.1)
 (case side5 => exact zk_ ((Kd.R_reads' HO220.out).2.2))
 (case side6 => exact (Kd.R_reads' HO220.out).2.1)
 (case side7 => exact zk_ ((Kd.R_reads' HO223.out).2.2))
 (case side8 => exact (Kd.R_reads' HO223.out).2.1)
 rintro e w36 ⟨rfl, hb⟩
 refine ⟨_, rfl, ?_⟩
 replace HO194 := zy_ HO194 hb
 replace HO197 := zy_ HO197 hb
 replace HO200 := zy_ HO200 hb
 replace HO205 := zy_ HO205 hb
 replace HO208 := zy_ HO208 hb
 replace HO211 := zy_ HO211 hb
 replace HO220 := zy_ HO220 hb
 replace HO223 := zy_ HO223 hb
 replace BK202 := za_ BK202 hb
 replace BK213 := za_ BK213 hb
 replace HB := Aside0.mk (below_step (zw2_ HB GE202 GE213) hb)
 (try clear hb)
 (try clear hb2)
 (try clear hk)
 (try clear hi)
 refine hK.out _ _ ⟨zx_ BK202 0, zx_ BK202 1, zx_ BK213 0, zx_ BK213 1⟩ (fun hHeld => ?_)
 clear hK K
 refine zq_ (some 36) (h := ?_)
 refine yp_ ?_ 21 37
 refine yp_ ?_ 22 0
 refine done_ (done_of HT_.out (by kernel_rfl)) ?_
 try go_wp2
 go_ret
 exact ⟨z0_, zw2_ HB GE202 GE213⟩

/-! ### carouselref5_Same: function 37 -/
def carouselref5_Same.l0 : Nat → List Int → List Int → Int → Option (Bool)
 | 0, _, _, _ => none
 | k + 1, x0, x1, x5 => if x5 < (x0.length : Int) then (if 0 ≤ x5 then (if x5 < (x1.length : Int) then (if (rd x0 x5) = (rd x1 x5) then (carouselref5_Same.l0 k x0 x1 (wrap64 (x5 + 1))) else (some false)) else (none)) else (none)) else (some true)
def carouselref5_Same.f (k : Nat) (l0 : List Int) (l1 : List Int) : Option (Bool) := if (l0.length : Int) = (l1.length : Int) then (carouselref5_Same.l0 k l0 l1 0) else (some false)
theorem carouselref5_Same.mono_l : ∀ k, (∀ y0 y1 y2, LeO (carouselref5_Same.l0 k y0 y1 y2) (carouselref5_Same.l0 (k + 1) y0 y1 y2))
 | 0 => fun _ _ _ r h => by simp [carouselref5_Same.l0] at h
 | k + 1 => by
  have ih0 := carouselref5_Same.mono_l k
  ·intro y0 y1 y2
   unfold carouselref5_Same.l0
   repeat' first
   | (with_reducible exact ih0 _ _ _)
   | (with_reducible exact LeO.refl _)
   | (with_reducible exact LeO.none _)
   | (with_reducible refine LeO.ite ?_ ?_)
   | (with_reducible refine LeO.bind ?_ (fun _ => ?_))
   | exact ih0 _ _ _
   | exact LeO.none _
   | refine LeO.ite ?_ ?_
   | refine LeO.bind ?_ (fun _ => ?_)
theorem carouselref5_Same.mono : ∀ a0 a1 k, LeO (carouselref5_Same.f k a0 a1) (carouselref5_Same.f (k + 1) a0 a1) := by
 intro a0 a1 k
 have ih0 := carouselref5_Same.mono_l k
 unfold carouselref5_Same.f
 repeat' first
   | (with_reducible exact ih0 _ _ _)
   | (with_reducible exact LeO.refl _)
   | (with_reducible exact LeO.none _)
   | (with_reducible refine LeO.ite ?_ ?_)
   | (with_reducible refine LeO.bind ?_ (fun _ => ?_))
   | exact ih0 _ _ _
   | exact LeO.none _
   | refine LeO.ite ?_ ?_
   | refine LeO.bind ?_ (fun _ => ?_)
set_option maxHeartbeats 8000000 in
set_option maxRecDepth 100000 in
theorem carouselref5_Same.calls (k : Nat) (A0 : Option Addr) (c0 : Nat) (l0 : List Int) (A1 : Option Addr) (c1 : Nat) (l1 : List Int) (r : Bool) (w : World) (hr0 : Kd.C (Kd.int .i64) w A0 l0.length l0) (hc0 : l0.length ≤ c0) (hr1 : Kd.C (Kd.int .i64) w A1 l1.length l1) (hc1 : l1.length ≤ c1) (h : carouselref5_Same.f k l0 l1 = some r) :
  Calls Try.prog 37 #[.slice A0 l0.length c0, .slice A1 l1.length c1] w fun e w' => e = .returned (.bool r) ∧ Drawn0 w w' := by
 have HR0 := Aside0.mk hr0
 have HC0 := Aside0.mk hc0
 clear hr0 hc0
 have HR1 := Aside0.mk hr1
 have HC1 := Aside0.mk hc1
 clear hr1 hc1
 have H : (if (l0.length : Int) = (l1.length : Int) then (carouselref5_Same.l0 k l0 l1 0) else (some false)) = some r := h
 clear h
 by_cases c3 : (l0.length : Int) = (l1.length : Int)
 rotate_left
 ·rw [if_neg c3] at H
  have c3b0 : ((l0.length : Int) == (l1.length : Int)) = false := beq_eq_false_iff_ne.mpr c3
  have c3b1 : ((l0.length : Int) != (l1.length : Int)) = true := bne_iff_ne.mpr c3
  have c3b2 : (l0.length == l1.length) = false := by first | simpa using c3 | (simp at c3 ⊢; omega)
  obtain rfl := Option.some.inj H
  go_enter Try.func37, Try.ntmps37
  go_wp2
  repeat (go_quiet (fail); try go_wp2)
  go_ret
  exact ⟨by first | rfl | (simp; done) | (simp [*]; done), by repeat (first | exact Drawn0.refl _ | apply Drawn0.step)⟩
 rw [if_pos c3] at H
 have c3b0 : ((l0.length : Int) == (l1.length : Int)) = true := beq_iff_eq.mpr c3
 have c3b1 : ((l0.length : Int) != (l1.length : Int)) = false := bne_eq_false_iff_eq.mpr c3
 have c3b2 : (l0.length == l1.length) = true := by first | simpa using c3 | (simp at c3 ⊢; omega)
 clear c3
 have H' := Aside0.mk H
 clear H
 go_enter Try.func37, Try.ntmps37
 go_wp2
 repeat (go_quiet (fail); try go_wp2)
 go_loopg [5] k (fun kq v5 w' => ∃ (x5_1 : Int), v5 = .int .i64 x5_1 ∧ Aside0 (carouselref5_Same.l0 kq l0 l1 x5_1 = some r) ∧ Aside0 (kq ≤ k) ∧ Drawn0 w w')
 case atStart => exact ⟨(0), z1_, H', ⟨Nat.le_refl _⟩, by repeat (first | exact Drawn0.refl _ | apply Drawn0.step)⟩
 case round =>
  clear H'
  try clear c1
  try clear p2
  try clear c3
  try clear c3b0
  try clear c3b1
  try clear c3b2
  obtain ⟨x5_1, rfl, HA, HK1, ⟨m1, rfl⟩⟩ := hrel
  cases gk with
  | zero => exact absurd HA.out (by simp [carouselref5_Same.l0])
  | succ k1 =>
   have H := HA.out
   clear HA
   simp only [carouselref5_Same.l0] at H
   by_cases c4 : x5_1 < (l0.length : Int)
   rotate_left
   ·rw [if_neg c4] at H
    have c4b0 : decide (x5_1 < (l0.length : Int)) = false := decide_eq_false c4
    clear c4
    obtain rfl := Option.some.inj H
    go_wp2
    repeat (go_quiet (fail); try go_wp2)
    go_ret
    exact ⟨by first | rfl | (simp; done) | (simp [*]; done), by repeat (first | exact Drawn0.refl _ | apply Drawn0.step)⟩
   rw [if_pos c4] at H
   have c4b0 : decide (x5_1 < (l0.length : Int)) = true := decide_eq_true c4
   clear c4
   by_cases c5 : 0 ≤ x5_1
   rotate_left
   ·rw [if_neg c5] at H
    exact absurd H (by simp)
   rw [if_pos c5] at H
   have c5b0 : decide (0 ≤ x5_1) = true := decide_eq_true c5
   clear c5
   by_cases c6 : x5_1 < (l1.length : Int)
   rotate_left
   ·rw [if_neg c6] at H
    exact absurd H (by simp)
   rw [if_pos c6] at H
   have c6b0 : decide (x5_1 < (l1.length : Int)) = true := decide_eq_true c6
   clear c6
   by_cases c7 : (rd l0 x5_1) = (rd l1 x5_1)
   rotate_left
   ·rw [if_neg c7] at H
    have c7b0 : ((rd l0 x5_1) == (rd l1 x5_1)) = false := beq_eq_false_iff_ne.mpr c7
    have c7b1 : ((rd l0 x5_1) != (rd l1 x5_1)) = true := bne_iff_ne.mpr c7
    obtain rfl := Option.some.inj H
    have p225 : 0 ≤ (x5_1 : Int) := of_decide_eq_true (by first | (with_reducible assumption) | assumption)
    have q225 : x5_1 < (l0.length : Int) := of_decide_eq_true (by first | (with_reducible assumption) | assumption)
    obtain ⟨ad225, e225, hx225_0⟩ := Kd.at_int HR0.out x5_1 p225 q225
    cases e225
    replace p225 := eq_true p225
    replace q225 := eq_true q225
    have p226 : 0 ≤ (x5_1 : Int) := of_decide_eq_true (by first | (with_reducible assumption) | assumption)
    have q226 : x5_1 < (l1.length : Int) := of_decide_eq_true (by first | (with_reducible assumption) | assumption)
    obtain ⟨ad226, e226, hx226_0⟩ := Kd.at_int HR1.out x5_1 p226 q226
    cases e226
    replace p226 := eq_true p226
    replace q226 := eq_true q226
    go_wp2
    repeat (go_quiet (fail); try go_wp2)
    go_ret
    exact ⟨by first | rfl | (simp; done) | (simp [*]; done), by repeat (first | exact Drawn0.refl _ | apply Drawn0.step)⟩
   rw [if_pos c7] at H
   have c7b0 : ((rd l0 x5_1) == (rd l1 x5_1)) = true := beq_iff_eq.mpr c7
   have c7b1 : ((rd l0 x5_1) != (rd l1 x5_1)) = false := bne_eq_false_iff_eq.mpr c7
   clear c7
   have H' := Aside0.mk H
   clear H
   have p225 : 0 ≤ (x5_1 : Int) := of_decide_eq_true (by first | (with_reducible assumption) | assumption)
   have q225 : x5_1 < (l0.length : Int) := of_decide_eq_true (by first | (with_reducible assumption) | assumption)
   obtain ⟨ad225, e225, hx225_0⟩ := Kd.at_int HR0.out x5_1 p225 q225
   cases e225
   replace p225 := eq_true p225
   replace q225 := eq_true q225
   have p226 : 0 ≤ (x5_1 : Int) := of_decide_eq_true (by first | (with_reducible assumption) | assumption)
   have q226 : x5_1 < (l1.length : Int) := of_decide_eq_true (by first | (with_reducible assumption) | assumption)
   obtain ⟨ad226, e226, hx226_0⟩ := Kd.at_int HR1.out x5_1 p226 q226
   cases e226
   replace p226 := eq_true p226
   replace q226 := eq_true q226
   go_wp2
   repeat (go_quiet (fail); try go_wp2)
   go_roundg k1
   case measure => have := HK1.out; omega
   case rel => exact ⟨(wrap64 (x5_1 + 1)), z1_, H', ⟨by have := HK1.out; omega⟩, by repeat (first | exact Drawn0.refl _ | apply Drawn0.step)⟩

end Go.Proofs.Ytbdhabpplidgfaa.PTensTurns
