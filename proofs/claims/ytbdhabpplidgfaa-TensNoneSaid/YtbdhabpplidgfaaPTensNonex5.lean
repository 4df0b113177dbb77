/- The functions that the law TensNone reaches, as Lean functions, and that each call of the Go function does what its Lean function says, wherever that one answers. Written by a program of mine over the print of the kit; Lean checks it. -/
import Derived.Test.YtbdhabpplidgfaaPTensNonex0
import Derived.Test.YtbdhabpplidgfaaPTensNonex1
import Derived.Test.YtbdhabpplidgfaaPTensNonex2
import Derived.Test.YtbdhabpplidgfaaPTensNonex4
namespace Go.Proofs.Ytbdhabpplidgfaa.PTensNone
open Go.RowKit Go.Proofs.YtbdhabpplidgfaaW.PrintWords Go.Proofs.YtbdhabpplidgfaaW.PrintLast Go.Proofs.YtbdhabpplidgfaaW.PrintMore
attribute [local go_sem] max2_int min2_int max_two min_two max_three min_three max_four min_four   -- for this text's walks alone
set_option linter.unusedVariables false
set_option linter.unusedSimpArgs false

/-! ### carousellaw6_awake: function 11 -/
def carousellaw6_awake.f (k : Nat)  : Option (Bool) := (tens_New.f k (([2, 3] : List Int)) 4294967296).bind fun bt195 => ((tens_Fold.f k bt195.1 bt195.2.1 (([3] : List Int))).bind fun bt206 => (if bt195.2.2 = 0 then ((tens_Good.f k bt195.1 bt195.2.1).bind fun t214 => (if t214 = true then (if (bt195.2.1.length : Int) = 6 then (if bt206.2.2 = 0 then ((carousellaw6_row.f (([8589934592, 8589934592, 8589934592] : List Int))).bind fun bt218 => ((tens_Same.f k bt206.1 bt206.2.1 bt218.1 bt218.2).bind fun t224 => (some t224))) else (none)) else (none)) else (none))) else (none)))
theorem carousellaw6_awake.mono : ∀ k, LeO (carousellaw6_awake.f k ) (carousellaw6_awake.f (k + 1) ) := by
 intro  k
 unfold carousellaw6_awake.f
 repeat' first
   | (with_reducible exact tens_Fold.mono _ _ _ _)
   | (with_reducible exact tens_Good.mono _ _ _)
   | (with_reducible exact tens_New.mono _ _ _)
   | (with_reducible exact tens_Same.mono _ _ _ _ _)
   | (with_reducible exact LeO.refl _)
   | (with_reducible exact LeO.none _)
   | (with_reducible refine LeO.ite ?_ ?_)
   | (with_reducible refine LeO.bind ?_ (fun _ => ?_))
   | exact tens_Fold.mono _ _ _ _
   | exact tens_Good.mono _ _ _
   | exact tens_New.mono _ _ _
   | exact tens_Same.mono _ _ _ _ _
   | exact LeO.none _
   | refine LeO.ite ?_ ?_
   | refine LeO.bind ?_ (fun _ => ?_)
def carousellaw6_awake.T3 : Bool × List (List Nat × List Nat) := (true, [([], []), ([0], [0]), ([1], [1]), ([2], [2]), ([3, 2, 2], [2, 3]), ([2, 4], [2, 4]), ([5, 4], [5]), ([6], [6]), ([7, 6], [6, 7]), ([8, 6], [6, 8]), ([9, 6], [6, 9]), ([6, 10], [6, 10]), ([11, 6], [11]), ([12], [12]), ([13, 12], [12, 13]), ([12, 14], [12, 14]), ([15, 12], [15]), ([16], [16]), ([16], [16]), ([18, 16, 16], [16, 18]), ([17, 19, 19, 16], [16, 17, 19]), ([16, 20], [16, 20]), ([21, 20, 0, 1, 2, 3, 4, 5, 6, 7, 8, 9, 10, 11, 12, 13, 14, 15, 16, 17, 18, 19, 20, 21], [21])])
def carousellaw6_awake.B3 : List Nat := [0, 1, 3, 7, 15, 31, 63, 127, 255, 511, 1023, 2047, 4095, 8191, 16383, 32767, 65535, 131071, 131071, 393215, 1048575, 2097151, 4194303]
theorem carousellaw6_awake.tab3 : rtab .any (opsOf Try.f11 3) = carousellaw6_awake.T3 := by kernel_rfl
theorem carousellaw6_awake.bits3 : waitsOk carousellaw6_awake.T3.2 carousellaw6_awake.B3 = true := by kernel_rfl
set_option maxHeartbeats 8000000 in
set_option maxRecDepth 100000 in
theorem carousellaw6_awake.calls (k : Nat)  (r : Bool) (w : World) (h : carousellaw6_awake.f k  = some r) :
  Calls Try.prog 11 #[] w fun e w' => e = .returned (.bool r) ∧ Below w.heap.size w w' := by
 have hu27 := Try.underlying27
 have HB := Aside0.mk (Below.refl w.heap.size w)
 have H : ((tens_New.f k (([2, 3] : List Int)) 4294967296).bind fun bt195 => ((tens_Fold.f k bt195.1 bt195.2.1 (([3] : List Int))).bind fun bt206 => (if bt195.2.2 = 0 then ((tens_Good.f k bt195.1 bt195.2.1).bind fun t214 => (if t214 = true then (if (bt195.2.1.length : Int) = 6 then (if bt206.2.2 = 0 then ((carousellaw6_row.f (([8589934592, 8589934592, 8589934592] : List Int))).bind fun bt218 => ((tens_Same.f k bt206.1 bt206.2.1 bt218.1 bt218.2).bind fun t224 => (some t224))) else (none)) else (none)) else (none))) else (none)))) = some r := h
 clear h
 obtain ⟨y192, hy192⟩ : ∃ y_ : List Int, y_ = (([2, 3] : List Int)) := ⟨_, rfl⟩
 replace H : ((tens_New.f k y192 4294967296).bind fun bt195 => ((tens_Fold.f k bt195.1 bt195.2.1 (([3] : List Int))).bind fun bt206 => (if bt195.2.2 = 0 then ((tens_Good.f k bt195.1 bt195.2.1).bind fun t214 => (if t214 = true then (if (bt195.2.1.length : Int) = 6 then (if bt206.2.2 = 0 then ((carousellaw6_row.f (([8589934592, 8589934592, 8589934592] : List Int))).bind fun bt218 => ((tens_Same.f k bt206.1 bt206.2.1 bt218.1 bt218.2).bind fun t224 => (some t224))) else (none)) else (none)) else (none))) else (none)))) = some r := by first | (rw [hy192]; with_reducible exact H) | (have H2_ := (Option.bind_some _ _).symm.trans H; rw [hy192]; with_reducible exact H2_) | (have H2_ := (Option.bind_some _ _).symm.trans H; with_reducible exact H2_) | with_reducible exact H | (rw [hy192]; exact H) | exact H
 have Ny192 := Aside0.mk hy192
 clear hy192
 replace H := Option.bind_eq_some_iff.mp H
 obtain ⟨⟨t195, t198, t201⟩, A10, H⟩ := H
 (try dsimp only at H)
 have A1 := Aside0.mk A10
 clear A10
 obtain ⟨y203, hy203⟩ : ∃ y_ : List Int, y_ = (([3] : List Int)) := ⟨_, rfl⟩
 replace H : ((tens_Fold.f k t195 t198 y203).bind fun bt206 => (if t201 = 0 then ((tens_Good.f k t195 t198).bind fun t214 => (if t214 = true then (if (t198.length : Int) = 6 then (if bt206.2.2 = 0 then ((carousellaw6_row.f (([8589934592, 8589934592, 8589934592] : List Int))).bind fun bt218 => ((tens_Same.f k bt206.1 bt206.2.1 bt218.1 bt218.2).bind fun t224 => (some t224))) else (none)) else (none)) else (none))) else (none))) = some r := by first | (rw [hy203]; with_reducible exact H) | (have H2_ := (Option.bind_some _ _).symm.trans H; rw [hy203]; with_reducible exact H2_) | (have H2_ := (Option.bind_some _ _).symm.trans H; with_reducible exact H2_) | with_reducible exact H | (rw [hy203]; exact H) | exact H
 have Ny203 := Aside0.mk hy203
 clear hy203
 replace H := Option.bind_eq_some_iff.mp H
 obtain ⟨⟨t206, t209, t212⟩, A20, H⟩ := H
 (try dsimp only at H)
 have A2 := Aside0.mk A20
 clear A20
 by_cases c3 : t201 = 0
 ·rw [if_pos c3] at H
  have c3b0 : (t201 == 0) = true := beq_iff_eq.mpr c3
  have c3b1 : (t201 != 0) = false := bne_eq_false_iff_eq.mpr c3
  clear c3
  replace H := Option.bind_eq_some_iff.mp H
  obtain ⟨t214, A40, H⟩ := H
  (try dsimp only at H)
  have A4 := Aside0.mk A40
  clear A40
  by_cases c5 : t214 = true
  ·subst c5
   have H1 := H
   rw [if_pos rfl] at H1
   clear H
   have H := H1
   clear H1
   by_cases c6 : (t198.length : Int) = 6
   ·rw [if_pos c6] at H
    have c6b0 : ((t198.length : Int) == 6) = true := beq_iff_eq.mpr c6
    have c6b1 : ((t198.length : Int) != 6) = false := bne_eq_false_iff_eq.mpr c6
    clear c6
    by_cases c7 : t212 = 0
    ·rw [if_pos c7] at H
     have c7b0 : (t212 == 0) = true := beq_iff_eq.mpr c7
     have c7b1 : (t212 != 0) = false := bne_eq_false_iff_eq.mpr c7
     clear c7
     obtain ⟨y215, hy215⟩ : ∃ y_ : List Int, y_ = (([8589934592, 8589934592, 8589934592] : List Int)) := ⟨_, rfl⟩
     replace H : ((carousellaw6_row.f y215).bind fun bt218 => ((tens_Same.f k t206 t209 bt218.1 bt218.2).bind fun t224 => (some t224))) = some r := by first | (rw [hy215]; with_reducible exact H) | (have H2_ := (Option.bind_some _ _).symm.trans H; rw [hy215]; with_reducible exact H2_) | (have H2_ := (Option.bind_some _ _).symm.trans H; with_reducible exact H2_) | with_reducible exact H | (rw [hy215]; exact H) | exact H
     have Ny215 := Aside0.mk hy215
     clear hy215
     replace H := Option.bind_eq_some_iff.mp H
     obtain ⟨⟨t218, t221⟩, A80, H⟩ := H
     replace H : ((tens_Same.f k t206 t209 t218 t221).bind fun t224 => (some t224)) = some r := H
     have A8 := Aside0.mk A80
     clear A80
     replace H := Option.bind_eq_some_iff.mp H
     obtain ⟨t224, A90, H⟩ := H
     replace H : (some t224) = some r := H
     have A9 := Aside0.mk A90
     clear A90
     obtain rfl := Option.some.inj H
     go_enter Try.func11, Try.ntmps11
     try go_wp2_with (first | ((with_reducible refine gate_dst (N := 6) rfl ?_); (try (refine gate_guard (by rfl) ?_; dsimp only)); refine Kd.R_lit (Kd.int .i64) _ 3 ?hg (N := 6) ?hd (xs := ([2, 3] : List Int)) (inner := [.int .i64 2, .int .i64 3]) (ok := fun _ => True) (okp := fun _ => True) ?hr ?hp (fun _ hk => hk) trivial (Below.refl _ _) (Nat.le_refl _) (by simp) ?_; (case hd => rfl); (case hg => rfl); (case hr => first | (go_simp; done) | (go_simp; rfl)); (case hp => exact (Reps.one (show Kd.M (Kd.int .i64) _ _ _ 2 [.int .i64 2] from rfl) (Reps.one (show Kd.M (Kd.int .i64) _ _ _ 3 [.int .i64 3] from rfl) (Reps.none _ _)))); intro v193 w10 ho11 hb hg_ hnew_; clear hg_ hnew_; (first | rw [← Ny192.out] at ho11 | (simp only [Int.reduceToNat] at ho11; rw [← Ny192.out] at ho11)); have HO194 := Aside0.mk (Kd.R_lower ho11 (below_size (zw0_ HB))); replace HB := Aside0.mk (below_step (zw0_ HB) hb); clear hb ho11; obtain ⟨Ao12, co12, eo12⟩ := Kd.R_slice HO194.out; subst eo12) | ((with_reducible refine gate_callee (f := 12) rfl ?_); refine zg_ (some 7) Try.func12 #[.slice Ao12 y192.length co12, .int .i64 4294967296] (h := ?_); (with_reducible refine (tens_New.calls k _ _ y192 4294967296 t195 t198 t201 _ ?side1 ?side2 A1.out).mono ?_); (case side1 => exact zk_ ((Kd.R_reads' HO194.out).2.2)); (case side2 => exact (Kd.R_reads' HO194.out).2.1); rintro e w13 ⟨v196, v199, rfl, ho0, ho1, hb⟩; refine ⟨_, rfl, ?_⟩; have HO197 := Aside0.mk (Kd.R_lower (Kd.R_new' ho0 (Kd.R_lt (zr_ HO194.out))) (below_size (zw0_ HB))); replace HO194 := Aside0.mk (Kd.R_elder' (zr_ HO194.out) (Kd.R_base ho0) hb); have HO200 := Aside0.mk (Kd.R_lower ho1 (below_size (zw0_ HB))); replace HB := Aside0.mk (below_step (zw0_ HB) hb); (try clear hb); (try clear ho0); (try clear ho1)) | ((with_reducible refine gate_dst (N := 1) rfl ?_); (try (refine gate_guard (by rfl) ?_; dsimp only)); refine box_event ?hg (N := 1) ?hd (cs := #[.slice none 0 0, .slice none 0 0]) (t := 27) ?hr ?_; (case hd => rfl); (case hg => rfl); (case hr => first | (go_simp; done) | (go_simp; rfl)); intro gb202 hg w14 hbox hb; replace HO194 := Aside0.mk (Kd.R_below (zr_ HO194.out) hb); replace HO197 := Aside0.mk (Kd.R_below (zr_ HO197.out) hb); replace HO200 := Aside0.mk (Kd.R_below (zr_ HO200.out) hb); have BK202 := Aside0.mk (hbox); have GW202 := Aside0.mk (zs_ hg (zw0_ HB)); have GE202 := Aside0.mk (zs_ hg (zw0_ HB)); replace HB := Aside0.mk (below_step (zw0_ HB) hb); clear hb hbox hg; obtain ⟨Ao15, co15, eo15⟩ := Kd.R_slice HO197.out; subst eo15; have hcz16_0 := zx_ (v := .slice none 0 0) BK202 0; have hcz16_1 := zx_ (v := .slice none 0 0) BK202 1; have hfz16_0 := blk_frozen BK202.out 0; have hfz16_1 := blk_frozen BK202.out 1; obtain ⟨Ao17, co17, eo17⟩ := Kd.R_slice HO200.out; subst eo17) | ((with_reducible refine gate_dst (N := 12) rfl ?_); (try (refine gate_guard (by rfl) ?_; dsimp only)); refine Kd.R_lit (Kd.int .i64) _ 3 ?hg (N := 12) ?hd (xs := ([3] : List Int)) (inner := [.int .i64 3]) (ok := fun _ => True) (okp := fun _ => True) ?hr ?hp (fun _ hk => hk) trivial (Below.refl _ _) (Nat.le_refl _) (by simp) ?_; (case hd => rfl); (case hg => rfl); (case hr => first | (go_simp; done) | (go_simp; rfl)); (case hp => exact (Reps.one (show Kd.M (Kd.int .i64) _ _ _ 3 [.int .i64 3] from rfl) (Reps.none _ _))); intro v204 w18 ho19 hb hg_ hnew_; clear hg_ hnew_; (first | rw [← Ny203.out] at ho19 | (simp only [Int.reduceToNat] at ho19; rw [← Ny203.out] at ho19)); replace HO200 := Aside0.mk (Kd.R_below (zr_ ((Kd.R_mono (Kd.R_far (p := ⟨gb202, 1, none⟩) (Kd.R_far (p := ⟨gb202, 0, none⟩) (Kd.R_types HO200.out BK202.out (by decide)) (fun _ hk => hk.2) (.slice Ao15 t195.length co15)) (fun _ hk => hk.2) (.slice Ao17 t198.length co17)) (fun _ h_ => h_.1)))) hb); have HO205 := Aside0.mk (Kd.R_lower (Kd.R_new' (Kd.R_new' ho19 (Kd.R_lt (zr_ ((Kd.R_mono (Kd.R_far (p := ⟨gb202, 1, none⟩) (Kd.R_far (p := ⟨gb202, 0, none⟩) (Kd.R_types HO194.out BK202.out (by decide)) (fun _ hk => hk.2) (.slice Ao15 t195.length co15)) (fun _ hk => hk.2) (.slice Ao17 t198.length co17)) (fun _ h_ => h_.1)))))) (Kd.R_lt (zr_ ((Kd.R_mono (Kd.R_far (p := ⟨gb202, 1, none⟩) (Kd.R_far (p := ⟨gb202, 0, none⟩) (Kd.R_types HO197.out BK202.out (by decide)) (fun _ hk => hk.2) (.slice Ao15 t195.length co15)) (fun _ hk => hk.2) (.slice Ao17 t198.length co17)) (fun _ h_ => h_.1)))))) (below_size (zw1_ HB GE202))); replace HO194 := Aside0.mk (Kd.R_elder' (zr_ ((Kd.R_mono (Kd.R_far (p := ⟨gb202, 1, none⟩) (Kd.R_far (p := ⟨gb202, 0, none⟩) (Kd.R_types HO194.out BK202.out (by decide)) (fun _ hk => hk.2) (.slice Ao15 t195.length co15)) (fun _ hk => hk.2) (.slice Ao17 t198.length co17)) (fun _ h_ => h_.1)))) (Kd.R_base ho19) hb); replace HO197 := Aside0.mk (Kd.R_elder' (zr_ ((Kd.R_mono (Kd.R_far (p := ⟨gb202, 1, none⟩) (Kd.R_far (p := ⟨gb202, 0, none⟩) (Kd.R_types HO197.out BK202.out (by decide)) (fun _ hk => hk.2) (.slice Ao15 t195.length co15)) (fun _ hk => hk.2) (.slice Ao17 t198.length co17)) (fun _ h_ => h_.1)))) (Kd.R_base ho19) hb); replace BK202 := Aside0.mk (blk_below (g := gb202) (o := .cells #[.slice Ao15 t195.length co15, .slice Ao17 t198.length co17] 27 (0, 0)) (by (with_reducible repeat (first | refine blk_drewN ?_ _ | refine blk_drew ?_ | refine blk_alloc ?_ _)); refine blk_put (cs := #[.slice Ao15 t195.length co15, .slice none 0 0]) ?_ 1 _ rfl; (with_reducible repeat (first | refine blk_drewN ?_ _ | refine blk_drew ?_ | refine blk_alloc ?_ _)); refine blk_put (cs := #[.slice none 0 0, .slice none 0 0]) ?_ 0 _ rfl; (with_reducible repeat (first | refine blk_drewN ?_ _ | refine blk_drew ?_ | refine blk_alloc ?_ _)); exact BK202.out) hb); replace HB := Aside0.mk (below_step (zw1_ HB GE202) hb); clear hb ho19; obtain ⟨Ao20, co20, eo20⟩ := Kd.R_slice HO205.out; subst eo20) | ((with_reducible refine gate_callee (f := 26) rfl ?_); refine zg_ (some 13) Try.func26 #[.agg #[.slice Ao15 t195.length co15, .slice Ao17 t198.length co17], .slice Ao20 y203.length co20] (h := ?_); (with_reducible refine (tens_Fold.calls k _ _ t195 _ _ t198 _ _ y203 t206 t209 t212 _ ?side1 ?side2 ?side3 ?side4 ?side5 ?side6 A2.out).mono ?_); (case side1 => exact zk_ ((Kd.R_reads' HO197.out).2.2)); (case side2 => exact (Kd.R_reads' HO197.out).2.1); (case side3 => exact zk_ ((Kd.R_reads' HO200.out).2.2)); (case side4 => exact (Kd.R_reads' HO200.out).2.1); (case side5 => exact zk_ ((Kd.R_reads' HO205.out).2.2)); (case side6 => exact (Kd.R_reads' HO205.out).2.1); rintro e w21 ⟨v207, v210, rfl, ho0, ho1, hb⟩; refine ⟨_, rfl, ?_⟩; have HO208 := Aside0.mk (Kd.R_lower (Kd.R_new' (Kd.R_new' (Kd.R_new' ho0 (Kd.R_lt (zr_ HO194.out))) (Kd.R_lt (zr_ HO197.out))) (Kd.R_lt (zr_ HO205.out))) (below_size (zw1_ HB GE202))); replace HO194 := Aside0.mk (Kd.R_elder' (zr_ HO194.out) (Kd.R_base ho0) hb); replace HO197 := Aside0.mk (Kd.R_elder' (zr_ HO197.out) (Kd.R_base ho0) hb); replace HO205 := Aside0.mk (Kd.R_elder' (zr_ HO205.out) (Kd.R_base ho0) hb); have HO211 := Aside0.mk (Kd.R_lower (Kd.R_new' ho1 (Kd.R_lt (zr_ HO200.out))) (below_size (zw1_ HB GE202))); replace HO200 := Aside0.mk (Kd.R_elder' (zr_ HO200.out) (Kd.R_base ho1) hb); replace BK202 := Aside0.mk (zl_ BK202 hb); replace HB := Aside0.mk (below_step (zw1_ HB GE202) hb); (try clear hb); (try clear ho0); (try clear ho1)) | ((with_reducible refine gate_dst (N := 3) rfl ?_); (try (refine gate_guard (by rfl) ?_; dsimp only)); refine box_event ?hg (N := 3) ?hd (cs := #[.slice none 0 0, .slice none 0 0]) (t := 27) ?hr ?_; (case hd => rfl); (case hg => rfl); (case hr => first | (go_simp; done) | (go_simp; rfl)); intro gb213 hg w22 hbox hb; replace HO194 := Aside0.mk (Kd.R_below (zr_ HO194.out) hb); replace HO197 := Aside0.mk (Kd.R_below (zr_ HO197.out) hb); replace HO200 := Aside0.mk (Kd.R_below (zr_ HO200.out) hb); replace HO205 := Aside0.mk (Kd.R_below (zr_ HO205.out) hb); replace HO208 := Aside0.mk (Kd.R_below (zr_ HO208.out) hb); replace HO211 := Aside0.mk (Kd.R_below (zr_ HO211.out) hb); have BK213 := Aside0.mk (hbox); have GW213 := Aside0.mk (zs_ hg (zw1_ HB GE202)); have GE213 := Aside0.mk (zs_ hg (zw1_ HB GE202)); replace HB := Aside0.mk (below_step (zw1_ HB GE202) hb); have NB202_213 := Aside0.mk (zn_ hg BK202); have NB213_202 := Aside0.mk (zm_ hg BK202); replace BK202 := Aside0.mk (zl_ BK202 hb); clear hb hbox hg; obtain ⟨Ao23, co23, eo23⟩ := Kd.R_slice HO208.out; subst eo23; have hnb24 := NB213_202.out; have hnc24 := NB202_213.out; have hcz25_0 := zx_ (v := .slice none 0 0) BK213 0; have hcz25_1 := zx_ (v := .slice none 0 0) BK213 1; have hfz25_0 := blk_frozen BK213.out 0; have hfz25_1 := blk_frozen BK213.out 1; obtain ⟨Ao26, co26, eo26⟩ := Kd.R_slice HO211.out; subst eo26))
     have n0_ : Aside0 (Kd.R (Kd.int .i64) 3 ((w22.setCell ⟨gb213, 0, none⟩ (.slice Ao23 t206.length co23)).setCell ⟨gb213, 1, none⟩ (.slice Ao26 t209.length co26)) w.heap.size (fun k_ => some k_ ≠ (.slice Ao15 t195.length co15 : Value).ownBlock ∧ some k_ ≠ (.slice Ao20 y203.length co20 : Value).ownBlock ∧ some k_ ≠ (.slice Ao23 t206.length co23 : Value).ownBlock) (.slice Ao12 y192.length co12) y192) := ⟨zr_ (Kd.R_mono (Kd.R_far (p := ⟨gb213, 1, none⟩) (Kd.R_far (p := ⟨gb213, 0, none⟩) (Kd.R_types HO194.out BK213.out (by decide)) (fun _ hk => hk.2) (.slice Ao23 t206.length co23)) (fun _ hk => hk.2) (.slice Ao26 t209.length co26)) (fun _ hk => ⟨hk.1.1.1.2, ⟨hk.1.1.2, hk.1.2⟩⟩))⟩
     have n1_ : Aside0 (Kd.R (Kd.int .i64) 3 ((w22.setCell ⟨gb213, 0, none⟩ (.slice Ao23 t206.length co23)).setCell ⟨gb213, 1, none⟩ (.slice Ao26 t209.length co26)) w.heap.size (fun k_ => some k_ ≠ (.slice Ao12 y192.length co12 : Value).ownBlock ∧ some k_ ≠ (.slice Ao20 y203.length co20 : Value).ownBlock ∧ some k_ ≠ (.slice Ao23 t206.length co23 : Value).ownBlock) (.slice Ao15 t195.length co15) t195) := ⟨zr_ (Kd.R_mono (Kd.R_far (p := ⟨gb213, 1, none⟩) (Kd.R_far (p := ⟨gb213, 0, none⟩) (Kd.R_types HO197.out BK213.out (by decide)) (fun _ hk => hk.2) (.slice Ao23 t206.length co23)) (fun _ hk => hk.2) (.slice Ao26 t209.length co26)) (fun _ hk => ⟨hk.1.1.1.2, ⟨hk.1.1.2, hk.1.2⟩⟩))⟩
     have n2_ : Aside0 (Kd.R (Kd.int .i64) 23 ((w22.setCell ⟨gb213, 0, none⟩ (.slice Ao23 t206.length co23)).setCell ⟨gb213, 1, none⟩ (.slice Ao26 t209.length co26)) w.heap.size (fun k_ => some k_ ≠ (.slice Ao26 t209.length co26 : Value).ownBlock) (.slice Ao17 t198.length co17) t198) := ⟨zr_ (Kd.R_mono (Kd.R_far (p := ⟨gb213, 1, none⟩) (Kd.R_far (p := ⟨gb213, 0, none⟩) (Kd.R_types HO200.out BK213.out (by decide)) (fun _ hk => hk.2) (.slice Ao23 t206.length co23)) (fun _ hk => hk.2) (.slice Ao26 t209.length co26)) (fun _ hk => hk.1.2))⟩
     have n3_ : Aside0 (Kd.R (Kd.int .i64) 3 ((w22.setCell ⟨gb213, 0, none⟩ (.slice Ao23 t206.length co23)).setCell ⟨gb213, 1, none⟩ (.slice Ao26 t209.length co26)) w.heap.size (fun k_ => some k_ ≠ (.slice Ao12 y192.length co12 : Value).ownBlock ∧ some k_ ≠ (.slice Ao15 t195.length co15 : Value).ownBlock ∧ some k_ ≠ (.slice Ao23 t206.length co23 : Value).ownBlock) (.slice Ao20 y203.length co20) y203) := ⟨zr_ (Kd.R_mono (Kd.R_far (p := ⟨gb213, 1, none⟩) (Kd.R_far (p := ⟨gb213, 0, none⟩) (Kd.R_types HO205.out BK213.out (by decide)) (fun _ hk => hk.2) (.slice Ao23 t206.length co23)) (fun _ hk => hk.2) (.slice Ao26 t209.length co26)) (fun _ hk => ⟨hk.1.1.1.2, ⟨hk.1.1.2, hk.1.2⟩⟩))⟩
     have n4_ : Aside0 (Kd.R (Kd.int .i64) 3 ((w22.setCell ⟨gb213, 0, none⟩ (.slice Ao23 t206.length co23)).setCell ⟨gb213, 1, none⟩ (.slice Ao26 t209.length co26)) w.heap.size (fun k_ => some k_ ≠ (.slice Ao12 y192.length co12 : Value).ownBlock ∧ some k_ ≠ (.slice Ao15 t195.length co15 : Value).ownBlock ∧ some k_ ≠ (.slice Ao20 y203.length co20 : Value).ownBlock) (.slice Ao23 t206.length co23) t206) := ⟨zr_ (Kd.R_mono (Kd.R_far (p := ⟨gb213, 1, none⟩) (Kd.R_far (p := ⟨gb213, 0, none⟩) (Kd.R_types HO208.out BK213.out (by decide)) (fun _ hk => hk.2) (.slice Ao23 t206.length co23)) (fun _ hk => hk.2) (.slice Ao26 t209.length co26)) (fun _ hk => ⟨hk.1.1.1.2, ⟨hk.1.1.2, hk.1.2⟩⟩))⟩
     have n5_ : Aside0 (Kd.R (Kd.int .i64) 23 ((w22.setCell ⟨gb213, 0, none⟩ (.slice Ao23 t206.length co23)).setCell ⟨gb213, 1, none⟩ (.slice Ao26 t209.length co26)) w.heap.size (fun k_ => some k_ ≠ (.slice Ao17 t198.length co17 : Value).ownBlock) (.slice Ao26 t209.length co26) t209) := ⟨zr_ (Kd.R_mono (Kd.R_far (p := ⟨gb213, 1, none⟩) (Kd.R_far (p := ⟨gb213, 0, none⟩) (Kd.R_types HO211.out BK213.out (by decide)) (fun _ hk => hk.2) (.slice Ao23 t206.length co23)) (fun _ hk => hk.2) (.slice Ao26 t209.length co26)) (fun _ hk => hk.1.2))⟩
     have n6_ : Aside0 (((w22.setCell ⟨gb213, 0, none⟩ (.slice Ao23 t206.length co23)).setCell ⟨gb213, 1, none⟩ (.slice Ao26 t209.length co26)).heap[gb202]? = some (.cells #[.slice Ao15 t195.length co15, .slice Ao17 t198.length co17] 27 (0, 0))) := ⟨by (with_reducible repeat (first | refine blk_drewN ?_ _ | refine blk_drew ?_ | refine blk_alloc ?_ _)); refine blk_far ?_ NB202_213.out _; (with_reducible repeat (first | refine blk_drewN ?_ _ | refine blk_drew ?_ | refine blk_alloc ?_ _)); refine blk_far ?_ NB202_213.out _; (with_reducible repeat (first | refine blk_drewN ?_ _ | refine blk_drew ?_ | refine blk_alloc ?_ _)); exact BK202.out⟩
     have n7_ : Aside0 (((w22.setCell ⟨gb213, 0, none⟩ (.slice Ao23 t206.length co23)).setCell ⟨gb213, 1, none⟩ (.slice Ao26 t209.length co26)).heap[gb213]? = some (.cells #[.slice Ao23 t206.length co23, .slice Ao26 t209.length co26] 27 (0, 0))) := ⟨by (with_reducible repeat (first | refine blk_drewN ?_ _ | refine blk_drew ?_ | refine blk_alloc ?_ _)); refine blk_put (cs := #[.slice Ao23 t206.length co23, .slice none 0 0]) ?_ 1 _ rfl; (with_reducible repeat (first | refine blk_drewN ?_ _ | refine blk_drew ?_ | refine blk_alloc ?_ _)); refine blk_put (cs := #[.slice none 0 0, .slice none 0 0]) ?_ 0 _ rfl; (with_reducible repeat (first | refine blk_drewN ?_ _ | refine blk_drew ?_ | refine blk_alloc ?_ _)); exact BK213.out⟩
     have n8_ : Aside0 (Below w.heap.size w ((w22.setCell ⟨gb213, 0, none⟩ (.slice Ao23 t206.length co23)).setCell ⟨gb213, 1, none⟩ (.slice Ao26 t209.length co26))) := ⟨zw2_ HB GE202 GE213⟩
     (try clear HO194)
     (try clear HO197)
     (try clear HO200)
     (try clear HO205)
     (try clear HO208)
     (try clear HO211)
     (try clear BK202)
     (try clear BK213)
     (try clear HB)
     generalize ((w22.setCell ⟨gb213, 0, none⟩ (.slice Ao23 t206.length co23)).setCell ⟨gb213, 1, none⟩ (.slice Ao26 t209.length co26)) = w27 at n0_ n1_ n2_ n3_ n4_ n5_ n6_ n7_ n8_ ⊢
     have HO194 := n0_
     have HO197 := n1_
     have HO200 := n2_
     have HO205 := n3_
     have HO208 := n4_
     have HO211 := n5_
     have BK202 := n6_
     have BK213 := n7_
     have HB := n8_
     clear n0_ n1_ n2_ n3_ n4_ n5_ n6_ n7_ n8_
     replace HO194 := Aside0.mk (Kd.R_drew HO194.out)
     replace HO197 := Aside0.mk (Kd.R_drew HO197.out)
     replace HO200 := Aside0.mk (Kd.R_drew HO200.out)
     replace HO205 := Aside0.mk (Kd.R_drew HO205.out)
     replace HO208 := Aside0.mk (Kd.R_drew HO208.out)
     replace HO211 := Aside0.mk (Kd.R_drew HO211.out)
     replace BK202 := Aside0.mk (blk_drew BK202.out)
     replace BK213 := Aside0.mk (blk_drew BK213.out)
     replace HB := Aside0.mk (below_drew1 HB.out)
     refine start_ (n := 23) (S := fun w' => w'.cell? ⟨gb202, 0, none⟩ = some (.slice Ao15 t195.length co15) ∧ w'.cell? ⟨gb202, 1, none⟩ = some (.slice Ao17 t198.length co17) ∧ w'.cell? ⟨gb213, 0, none⟩ = some (.slice Ao23 t206.length co23) ∧ w'.cell? ⟨gb213, 1, none⟩ = some (.slice Ao26 t209.length co26)) (ds := []) #[false, false, false, false, false, false, false, false, false, false, false, false, false, false, false, false, false, false, false, false, false, false, false] (by kernel_rfl) rfl rfl ⟨(blk_cell BK202.out 0).trans rfl, (blk_cell BK202.out 1).trans rfl, (blk_cell BK213.out 0).trans rfl, (blk_cell BK213.out 1).trans rfl⟩ (fun hHeld => ?_); refine with_tabW carousellaw6_awake.tab3 carousellaw6_awake.bits3 (fun HT_ HW_ => ?_)
     generalize w27.drew = w28 at HO194 HO197 HO200 HO205 HO208 HO211 BK202 BK213 HB hHeld ⊢
     refine zp_ 0 (some 16) (h := ?_)
     refine zp_ 1 (some 17) (h := ?_)
     refine zp_ 2 (some 18) (h := ?_)
     refine zt_ 3 (some 19) (hr := by rintro w' ⟨s0, s1, s2, s3⟩; go_simp; with_reducible rfl) (h := ?_)
     refine one_ (i := 4) (N := some 20) #[true, true, true, true, true, false, false, false, false, false, false, false, false, false, false, false, false, false, false, false, false, false, false] rfl rfl (one_of HT_.out (by kernel_rfl)) (by decide) (fun K hK => ?_)
     refine goes_ Try.func16 (by kernel_rfl) rfl #[.agg #[.slice Ao15 t195.length co15, .slice Ao17 t198.length co17]] (by rfl) rfl rfl (by (try simp only [List.map_toArray, List.map_cons, List.map_nil]); first | done | rfl | (simp only [List.length_drop, List.length_take]; rfl)) ?_
     with_reducible refine (tens_Good.calls k _ _ t195 _ _ t198 true _ ?side1 ?side2 ?side3 ?side4 A4.out).mono ?_
     (case side1 => exact zk_ ((Kd.R_reads' HO197.out).2.2))
     (case side2 => exact (Kd.R_reads' HO197.out).2.1)
     (case side3 => exact zk_ ((Kd.R_reads' HO200.out).2.2))
     (case side4 => exact (Kd.R_reads' HO200.out).2.1)
     rintro e w29 ⟨rfl, hb⟩
     refine ⟨_, rfl, ?_⟩
     replace HO194 := Aside0.mk (Kd.R_below (zr_ HO194.out) hb)
     replace HO197 := Aside0.mk (Kd.R_below (zr_ HO197.out) hb)
     replace HO200 := Aside0.mk (Kd.R_below (zr_ HO200.out) hb)
     replace HO205 := Aside0.mk (Kd.R_below (zr_ HO205.out) hb)
     replace HO208 := Aside0.mk (Kd.R_below (zr_ HO208.out) hb)
     replace HO211 := Aside0.mk (Kd.R_below (zr_ HO211.out) hb)
     replace BK202 := Aside0.mk (zl_ BK202 hb)
     replace BK213 := Aside0.mk (zl_ BK213 hb)
     replace HB := Aside0.mk (below_step (zw2_ HB GE202 GE213) hb)
     (try clear hb)
     (try clear hb2)
     (try clear hk)
     (try clear hi)
     refine hK.out _ _ ⟨(blk_cell BK202.out 0).trans rfl, (blk_cell BK202.out 1).trans rfl, (blk_cell BK213.out 0).trans rfl, (blk_cell BK213.out 1).trans rfl⟩ (fun hHeld => ?_)
     clear hK K
     refine zq_ (some 20) (h := ?_)
     refine zp_ 5 (some 21) (h := ?_)
     refine zp_ 6 (some 22) (h := ?_)
     refine zp_ 7 (some 23) (h := ?_)
     refine zt_ 8 (some 24) (hr := by rintro w' ⟨s0, s1, s2, s3⟩; go_simp; with_reducible rfl) (h := ?_)
     refine zp_ 9 (some 25) (h := ?_)
     refine zp_ 10 (some 26) (h := ?_)
     refine zp_ 11 (some 27) (h := ?_)
     refine zp_ 12 (some 28) (h := ?_)
     refine zp_ 13 (some 29) (h := ?_)
     refine zp_ 14 (some 30) (h := ?_)
     refine zp_ 15 (some 31) (h := ?_)
     refine zp_ 16 (some 32) (h := ?_)
     refine zt_ 17 (some 33) (hr := by rintro w' ⟨s0, s1, s2, s3⟩; go_simp; with_reducible rfl) (h := ?_)
     refine one_ (i := 18) (N := some 34) #[true, true, true, true, true, true, true, true, true, true, true, true, true, true, true, true, true, true, true, false, false, false, false] rfl rfl (one_of HT_.out (by kernel_rfl)) (by decide) (fun K hK => ?_)
     refine Kd.R_lit_step (Kd.int .i64) _ 23 ?hg (N := 34) ?hd (xs := ([8589934592, 8589934592, 8589934592] : List Int)) (inner := [.int .i64 8589934592, .int .i64 8589934592, .int .i64 8589934592]) (ok := fun _ => True) (okp := fun _ => True) ?hr ?hp (fun _ hk => hk) trivial (Below.refl _ _) (Nat.le_refl _) (by simp) ?_; (case hd => rfl); (case hg => rfl); (case hr => first | (go_simp; done) | (go_simp; rfl)); (case hp => exact (Reps.one (show Kd.M (Kd.int .i64) _ _ _ 8589934592 [.int .i64 8589934592] from rfl) (Reps.one (show Kd.M (Kd.int .i64) _ _ _ 8589934592 [.int .i64 8589934592] from rfl) (Reps.one (show Kd.M (Kd.int .i64) _ _ _ 8589934592 [.int .i64 8589934592] from rfl) (Reps.none _ _)))))
     intro v216 w30 ho31 hb hg_ hnew_
     clear hg_ hnew_
     (first | rw [← Ny215.out] at ho31 | (simp only [Int.reduceToNat] at ho31; rw [← Ny215.out] at ho31))
     replace HO194 := Aside0.mk (Kd.R_below (zr_ HO194.out) hb)
     replace HO197 := Aside0.mk (Kd.R_below (zr_ HO197.out) hb)
     replace HO205 := Aside0.mk (Kd.R_below (zr_ HO205.out) hb)
     replace HO208 := Aside0.mk (Kd.R_below (zr_ HO208.out) hb)
     have HO217 := Aside0.mk (Kd.R_lower (Kd.R_new' (Kd.R_new' ho31 (Kd.R_lt (zr_ HO200.out))) (Kd.R_lt (zr_ HO211.out))) (below_size (zw2_ HB GE202 GE213)))
     replace HO200 := Aside0.mk (Kd.R_elder' (zr_ HO200.out) (Kd.R_base ho31) hb)
     replace HO211 := Aside0.mk (Kd.R_elder' (zr_ HO211.out) (Kd.R_base ho31) hb)
     replace BK202 := Aside0.mk (zl_ BK202 hb)
     replace BK213 := Aside0.mk (zl_ BK213 hb)
     replace HB := Aside0.mk (below_step (zw2_ HB GE202 GE213) hb)
     clear hb ho31
     obtain ⟨Ao32, co32, eo32⟩ := Kd.R_slice HO217.out
     (first | subst eo32 | (injection eo32 with f1_ f2_ f3_; have f4_ := f1_.symm; have f5_ := f3_.symm; clear f1_ f2_ f3_; subst f4_; subst f5_))
     refine hK.out _ _ ⟨(blk_cell BK202.out 0).trans rfl, (blk_cell BK202.out 1).trans rfl, (blk_cell BK213.out 0).trans rfl, (blk_cell BK213.out 1).trans rfl⟩ (fun hHeld => ?_)
     clear hK K
     refine zq_ (some 34) (h := ?_)
     refine one_ (i := 19) (N := some 35) #[true, true, true, true, true, true, true, true, true, true, true, true, true, true, true, true, true, true, true, true, false, false, false] rfl rfl (one_of HT_.out (by kernel_rfl)) (by decide) (fun K hK => ?_)
     refine goes_ Try.func28 (by kernel_rfl) rfl #[.slice Ao32 y215.length co32] (by rfl) rfl rfl (by (try simp only [List.map_toArray, List.map_cons, List.map_nil]); first | done | rfl | (simp only [List.length_drop, List.length_take]; rfl)) ?_
     with_reducible refine (carousellaw6_row.calls (fun k_ => some k_ = (.slice Ao32 y215.length co32 : Value).ownBlock) (.slice Ao32 y215.length co32) y215 t218 t221 w _ ?side1 ?side2 A8.out).mono ?_
     (case side1 => repeat (first | (with_reducible first | exact HB.out | apply below_alloc | apply pw_below_drewN | apply below_drew1 | refine below_set ?_ GE202.out | refine below_set ?_ GE213.out) | exact HB.out))
     (case side2 => exact Kd.R_tight rfl HO217.out)
     rintro e w33 ⟨v219, v222, rfl, ho0, ho1, hb, hkp⟩
     refine ⟨_, rfl, ?_⟩
     replace BK202 := Aside0.mk (blk_kept (zb_ BK202) hkp (fun hs_ => (fun e_ => (Kd.R_ne HO217.out BK202.out (by decide)) e_) hs_))
     replace BK213 := Aside0.mk (blk_kept (zb_ BK213) hkp (fun hs_ => (fun e_ => (Kd.R_ne HO217.out BK213.out (by decide)) e_) hs_))
     have HO220 := Aside0.mk (Kd.R_mono (ok' := fun k_ => some k_ ≠ (.slice Ao12 y192.length co12 : Value).ownBlock ∧ some k_ ≠ (.slice Ao15 t195.length co15 : Value).ownBlock ∧ some k_ ≠ (.slice Ao20 y203.length co20 : Value).ownBlock ∧ some k_ ≠ (.slice Ao23 t206.length co23 : Value).ownBlock) ho0 (fun k_ hk_ => ⟨Or.elim hk_ (fun hs_ => fun e_ => ((((Kd.R_apart' HO194.out (Kd.R_typed HO217.out) (by decide))).1 k_ e_.symm).2) hs_) (fun hn_ => (Kd.fresh' (Kd.R_lt (zr_ HO194.out)) k_ hn_)), Or.elim hk_ (fun hs_ => fun e_ => ((((Kd.R_apart' HO197.out (Kd.R_typed HO217.out) (by decide))).1 k_ e_.symm).2) hs_) (fun hn_ => (Kd.fresh' (Kd.R_lt (zr_ HO197.out)) k_ hn_)), Or.elim hk_ (fun hs_ => fun e_ => ((((Kd.R_apart' HO205.out (Kd.R_typed HO217.out) (by decide))).1 k_ e_.symm).2) hs_) (fun hn_ => (Kd.fresh' (Kd.R_lt (zr_ HO205.out)) k_ hn_)), Or.elim hk_ (fun hs_ => fun e_ => ((((Kd.R_apart' HO208.out (Kd.R_typed HO217.out) (by decide))).1 k_ e_.symm).2) hs_) (fun hn_ => (Kd.fresh' (Kd.R_lt (zr_ HO208.out)) k_ hn_))⟩))
     replace HO194 := Aside0.mk (Kd.R_mono (ok' := fun k_ => some k_ ≠ (.slice Ao15 t195.length co15 : Value).ownBlock ∧ some k_ ≠ (.slice Ao20 y203.length co20 : Value).ownBlock ∧ some k_ ≠ (.slice Ao23 t206.length co23 : Value).ownBlock ∧ some k_ ≠ (v219 : Value).ownBlock) (Kd.R_keptB ((Kd.R_apart' HO194.out (Kd.R_typed HO217.out) (by decide))) hkp (fun k_ hk_ hs_ => (hk_.2) hs_)) (fun k_ hk_ => ⟨hk_.1.1.1, hk_.1.1.2.1, hk_.1.1.2.2, fun e_ => Or.elim (ho0.1 k_ e_.symm) (fun hs_ => hk_.2.1 hs_) (fun hn_ => Nat.not_le.2 hk_.2.2 hn_)⟩))
     replace HO197 := Aside0.mk (Kd.R_mono (ok' := fun k_ => some k_ ≠ (.slice Ao12 y192.length co12 : Value).ownBlock ∧ some k_ ≠ (.slice Ao20 y203.length co20 : Value).ownBlock ∧ some k_ ≠ (.slice Ao23 t206.length co23 : Value).ownBlock ∧ some k_ ≠ (v219 : Value).ownBlock) (Kd.R_keptB ((Kd.R_apart' HO197.out (Kd.R_typed HO217.out) (by decide))) hkp (fun k_ hk_ hs_ => (hk_.2) hs_)) (fun k_ hk_ => ⟨hk_.1.1.1, hk_.1.1.2.1, hk_.1.1.2.2, fun e_ => Or.elim (ho0.1 k_ e_.symm) (fun hs_ => hk_.2.1 hs_) (fun hn_ => Nat.not_le.2 hk_.2.2 hn_)⟩))
     replace HO205 := Aside0.mk (Kd.R_mono (ok' := fun k_ => some k_ ≠ (.slice Ao12 y192.length co12 : Value).ownBlock ∧ some k_ ≠ (.slice Ao15 t195.length co15 : Value).ownBlock ∧ some k_ ≠ (.slice Ao23 t206.length co23 : Value).ownBlock ∧ some k_ ≠ (v219 : Value).ownBlock) (Kd.R_keptB ((Kd.R_apart' HO205.out (Kd.R_typed HO217.out) (by decide))) hkp (fun k_ hk_ hs_ => (hk_.2) hs_)) (fun k_ hk_ => ⟨hk_.1.1.1, hk_.1.1.2.1, hk_.1.1.2.2, fun e_ => Or.elim (ho0.1 k_ e_.symm) (fun hs_ => hk_.2.1 hs_) (fun hn_ => Nat.not_le.2 hk_.2.2 hn_)⟩))
     replace HO208 := Aside0.mk (Kd.R_mono (ok' := fun k_ => some k_ ≠ (.slice Ao12 y192.length co12 : Value).ownBlock ∧ some k_ ≠ (.slice Ao15 t195.length co15 : Value).ownBlock ∧ some k_ ≠ (.slice Ao20 y203.length co20 : Value).ownBlock ∧ some k_ ≠ (v219 : Value).ownBlock) (Kd.R_keptB ((Kd.R_apart' HO208.out (Kd.R_typed HO217.out) (by decide))) hkp (fun k_ hk_ hs_ => (hk_.2) hs_)) (fun k_ hk_ => ⟨hk_.1.1.1, hk_.1.1.2.1, hk_.1.1.2.2, fun e_ => Or.elim (ho0.1 k_ e_.symm) (fun hs_ => hk_.2.1 hs_) (fun hn_ => Nat.not_le.2 hk_.2.2 hn_)⟩))
     have HO223 := Aside0.mk (Kd.R_mono (ok' := fun k_ => some k_ ≠ (.slice Ao17 t198.length co17 : Value).ownBlock ∧ some k_ ≠ (.slice Ao26 t209.length co26 : Value).ownBlock) ho1 (fun k_ hk_ => ⟨Or.elim hk_ (fun hs_ => fun e_ => (((HO200.out).1 k_ e_.symm).2) hs_) (fun hn_ => (Kd.fresh' (Kd.R_lt (zr_ HO200.out)) k_ hn_)), Or.elim hk_ (fun hs_ => fun e_ => (((HO211.out).1 k_ e_.symm).2) hs_) (fun hn_ => (Kd.fresh' (Kd.R_lt (zr_ HO211.out)) k_ hn_))⟩))
     replace HO200 := Aside0.mk (Kd.R_mono (ok' := fun k_ => some k_ ≠ (.slice Ao26 t209.length co26 : Value).ownBlock ∧ some k_ ≠ (v222 : Value).ownBlock) (Kd.R_keptB (HO200.out) hkp (fun k_ hk_ hs_ => (hk_.2) hs_)) (fun k_ hk_ => ⟨hk_.1.1, fun e_ => Or.elim (ho1.1 k_ e_.symm) (fun hs_ => hk_.2.1 hs_) (fun hn_ => Nat.not_le.2 hk_.2.2 hn_)⟩))
     replace HO211 := Aside0.mk (Kd.R_mono (ok' := fun k_ => some k_ ≠ (.slice Ao17 t198.length co17 : Value).ownBlock ∧ some k_ ≠ (v222 : Value).ownBlock) (Kd.R_keptB (HO211.out) hkp (fun k_ hk_ hs_ => (hk_.2) hs_)) (fun k_ hk_ => ⟨hk_.1.1, fun e_ => Or.elim (ho1.1 k_ e_.symm) (fun hs_ => hk_.2.1 hs_) (fun hn_ => Nat.not_le.2 hk_.2.2 hn_)⟩))
     replace HB := Aside0.mk (hb)
     clear HO217
     (try clear hb)
     (try clear hkp)
     (try clear ho0)
     (try clear ho1)
     obtain ⟨Ao34, co34, eo34⟩ := Kd.R_slice HO220.out
     (first | subst eo34 | (injection eo34 with f1_ f2_ f3_; have f4_ := f1_.symm; have f5_ := f3_.symm; clear f1_ f2_ f3_; subst f4_; subst f5_))
     obtain ⟨Ao35, co35, eo35⟩ := Kd.R_slice HO223.out
     (first | subst eo35 | (injection eo35 with f1_ f2_ f3_; have f4_ := f1_.symm; have f5_ := f3_.symm; clear f1_ f2_ f3_; subst f4_; subst f5_))
     refine hK.out _ _ ⟨(blk_cell BK202.out 0).trans rfl, (blk_cell BK202.out 1).trans rfl, (blk_cell BK213.out 0).trans rfl, (blk_cell BK213.out 1).trans rfl⟩ (fun hHeld => ?_)
     clear hK K
     refine zq_ (some 35) (h := ?_)
     refine one_ (i := 20) (N := some 36) #[true, true, true, true, true, true, true, true, true, true, true, true, true, true, true, true, true, true, true, true, true, false, false] rfl rfl (one_of HT_.out (by kernel_rfl)) (by decide) (fun K hK => ?_)
     refine goes_ Try.func21 (by kernel_rfl) rfl #[.agg #[.slice Ao23 t206.length co23, .slice Ao26 t209.length co26], .agg #[.slice Ao34 t218.length co34, .slice Ao35 t221.length co35]] (by rfl) rfl rfl (by (try simp only [List.map_toArray, List.map_cons, List.map_nil]); first | done | rfl | (simp only [List.length_drop, List.length_take]; rfl)) ?_
     with_reducible refine (tens_Same.calls k _ _ t206 _ _ t209 _ _ t218 _ _ t221 t224 _ ?side1 ?side2 ?side3 ?side4 ?side5 ?side6 ?side7 ?side8 A9.out).mono ?_
     (case side1 => exact zk_ ((Kd.R_reads' HO208.out).2.2))
     (case side2 => exact (Kd.R_reads' HO208.out).2.1)
     (case side3 => exact zk_ ((Kd.R_reads' HO211.out).2.2))
     (case side4 => exact (Kd.R_reads' HO211.out).2.1)
     (case side5 => exact zk_ ((Kd.R_reads' HO220.out).2.2))
     (case side6 => exact (Kd.R_reads' HO220.out).2.1)
     (case side7 => exact zk_ ((Kd.R_reads' HO223.out).2.2))
     (case side8 => exact (Kd.R_reads' HO223.out).2.1)
     rintro e w36 ⟨rfl, hb⟩
     refine ⟨_, rfl, ?_⟩
     replace HO194 := Aside0.mk (Kd.R_below (zr_ HO194.out) hb)
     replace HO197 := Aside0.mk (Kd.R_below (zr_ HO197.out) hb)
     replace HO200 := Aside0.mk (Kd.R_below (zr_ HO200.out) hb)
     replace HO205 := Aside0.mk (Kd.R_below (zr_ HO205.out) hb)
     replace HO208 := Aside0.mk (Kd.R_below (zr_ HO208.out) hb)
     replace HO211 := Aside0.mk (Kd.R_below (zr_ HO211.out) hb)
     replace HO220 := Aside0.mk (Kd.R_below (zr_ HO220.out) hb)
     replace HO223 := Aside0.mk (Kd.R_below (zr_ HO223.out) hb)
     replace BK202 := Aside0.mk (zl_ BK202 hb)
     replace BK213 := Aside0.mk (zl_ BK213 hb)
     replace HB := Aside0.mk (below_step (zw2_ HB GE202 GE213) hb)
     (try clear hb)
     (try clear hb2)
     (try clear hk)
     (try clear hi)
     refine hK.out _ _ ⟨(blk_cell BK202.out 0).trans rfl, (blk_cell BK202.out 1).trans rfl, (blk_cell BK213.out 0).trans rfl, (blk_cell BK213.out 1).trans rfl⟩ (fun hHeld => ?_)
     clear hK K
     refine zq_ (some 36) (h := ?_)
     refine zp_ 21 (some 37) (h := ?_)
     refine zp_ 22 (some 0) (h := ?_)
     refine done_ (done_of HT_.out (by kernel_rfl)) ?_
     try go_wp2
     go_ret
     exact ⟨by first | rfl | (simp [errW_none, errW_some] <;> rfl) | (simp [*, errW_none, errW_some] <;> rfl), zw2_ HB GE202 GE213⟩
    ·rw [if_neg c7] at H
     have c7b0 : (t212 == 0) = false := beq_eq_false_iff_ne.mpr c7
     have c7b1 : (t212 != 0) = true := bne_iff_ne.mpr c7
     exact absurd H (by simp)
   ·rw [if_neg c6] at H
    have c6b0 : ((t198.length : Int) == 6) = false := beq_eq_false_iff_ne.mpr c6
    have c6b1 : ((t198.length : Int) != 6) = true := bne_iff_ne.mpr c6
    exact absurd H (by simp)
  ·replace c5 := Bool.eq_false_iff.mpr c5
   subst c5
   have H1 : (none) = some r := by rw [if_neg (show ¬ (false = true) by decide)] at H; exact H
   clear H
   have H := H1
   clear H1
   exact absurd H (by simp)
 ·rw [if_neg c3] at H
  have c3b0 : (t201 == 0) = false := beq_eq_false_iff_ne.mpr c3
  have c3b1 : (t201 != 0) = true := bne_iff_ne.mpr c3
  exact absurd H (by simp)

/-! ### carousellaw6_great: function 17 -/
def carousellaw6_great.f (l0_0 : List Int) (l0_1 : List Int) (a1 : Int) : Option (Bool) := if (l0_0.length : Int) > 10 then (some true) else (some (decide ((l0_1.length : Int) > a1)))
set_option maxHeartbeats 8000000 in
set_option maxRecDepth 100000 in
theorem carousellaw6_great.calls (A0_0 : Option Addr) (c0_0 : Nat) (l0_0 : List Int) (A0_1 : Option Addr) (c0_1 : Nat) (l0_1 : List Int) (a1 : Int) (r : Bool) (w : World) (hr0_0 : Kd.C (Kd.int .i64) w A0_0 l0_0.length l0_0) (hc0_0 : l0_0.length ≤ c0_0) (hr0_1 : Kd.C (Kd.int .i64) w A0_1 l0_1.length l0_1) (hc0_1 : l0_1.length ≤ c0_1) (h : carousellaw6_great.f l0_0 l0_1 a1 = some r) :
  Calls Try.prog 17 #[.agg #[.slice A0_0 l0_0.length c0_0, .slice A0_1 l0_1.length c0_1], .int .i64 a1] w fun e w' => e = .returned (.bool r) ∧ Below w.heap.size w w' := by
 have hu27 := Try.underlying27
 have HR0_0 := Aside0.mk hr0_0
 have HC0_0 := Aside0.mk hc0_0
 clear hr0_0 hc0_0
 have HR0_1 := Aside0.mk hr0_1
 have HC0_1 := Aside0.mk hc0_1
 clear hr0_1 hc0_1
 have HB := Aside0.mk (Below.refl w.heap.size w)
 have H : (if (l0_0.length : Int) > 10 then (some true) else (some (decide ((l0_1.length : Int) > a1)))) = some r := h
 clear h
 by_cases c3 : (l0_0.length : Int) > 10
 ·rw [if_pos c3] at H
  have c3b0 : decide (10 < (l0_0.length : Int)) = true := decide_eq_true c3
  have c3b1 : decide (10 < l0_0.length) = true := decide_eq_true (by omega)
  clear c3
  obtain rfl := Option.some.inj H
  go_enter Try.func17, Try.ntmps17
  go_wp2_with (first | ((with_reducible refine gate_dst (N := 2) rfl ?_); (try (refine gate_guard (by rfl) ?_; dsimp only)); refine box_event ?hg (N := 2) ?hd (cs := #[.slice A0_0 l0_0.length c0_0, .slice A0_1 l0_1.length c0_1]) (t := 27) ?hr ?_; (case hd => rfl); (case hg => rfl); (case hr => first | (go_simp; done) | (go_simp; rfl)); intro gb225 hg w4 hbox hb; have BK225 := Aside0.mk (hbox); have GW225 := Aside0.mk (zs_ hg (zw0_ HB)); have GE225 := Aside0.mk (zs_ hg (zw0_ HB)); replace HB := Aside0.mk (below_step (zw0_ HB) hb); clear hb hbox hg; have hcz5_0 := zx_ (v := .slice A0_0 l0_0.length c0_0) BK225 0; have hcz5_1 := zx_ (v := .slice A0_1 l0_1.length c0_1) BK225 1; have hfz5_0 := blk_frozen BK225.out 0; have hfz5_1 := blk_frozen BK225.out 1))
  go_ret
  exact ⟨by first | rfl | (simp [errW_none, errW_some] <;> rfl) | (simp [*, errW_none, errW_some] <;> rfl), zw1_ HB GE225⟩
 ·rw [if_neg c3] at H
  have c3b0 : decide (10 < (l0_0.length : Int)) = false := decide_eq_false c3
  have c3b1 : decide (10 < l0_0.length) = false := decide_eq_false (by omega)
  clear c3
  obtain rfl := Option.some.inj H
  go_enter Try.func17, Try.ntmps17
  go_wp2_with (first | ((with_reducible refine gate_dst (N := 2) rfl ?_); (try (refine gate_guard (by rfl) ?_; dsimp only)); refine box_event ?hg (N := 2) ?hd (cs := #[.slice A0_0 l0_0.length c0_0, .slice A0_1 l0_1.length c0_1]) (t := 27) ?hr ?_; (case hd => rfl); (case hg => rfl); (case hr => first | (go_simp; done) | (go_simp; rfl)); intro gb225 hg w6 hbox hb; have BK225 := Aside0.mk (hbox); have GW225 := Aside0.mk (zs_ hg (zw0_ HB)); have GE225 := Aside0.mk (zs_ hg (zw0_ HB)); replace HB := Aside0.mk (below_step (zw0_ HB) hb); clear hb hbox hg; have hcz7_0 := zx_ (v := .slice A0_0 l0_0.length c0_0) BK225 0; have hcz7_1 := zx_ (v := .slice A0_1 l0_1.length c0_1) BK225 1; have hfz7_0 := blk_frozen BK225.out 0; have hfz7_1 := blk_frozen BK225.out 1))
  go_ret
  exact ⟨by first | rfl | (simp [errW_none, errW_some] <;> rfl) | (simp [*, errW_none, errW_some] <;> rfl), zw1_ HB GE225⟩

/-! ### fix_size: function 63 -/
def fix_size.f (a0 : Int) : Option (Int) := if a0 < 0 then (some (IntKind.u64.wrap (-(IntKind.u64.wrap (a0))))) else (some (IntKind.u64.wrap (a0)))
set_option maxHeartbeats 8000000 in
set_option maxRecDepth 100000 in
theorem fix_size.calls (a0 : Int) (r : Int) (w : World) (h : fix_size.f a0 = some r) :
  Calls Try.prog 63 #[.int .i64 a0] w fun e w' => e = .returned (.int .u64 r) ∧ Drawn0 w w' := by
 have H : (if a0 < 0 then (some (IntKind.u64.wrap (-(IntKind.u64.wrap (a0))))) else (some (IntKind.u64.wrap (a0)))) = some r := h
 clear h
 by_cases c2 : a0 < 0
 ·rw [if_pos c2] at H
  have c2b0 : decide (a0 < 0) = true := decide_eq_true c2
  clear c2
  obtain rfl := Option.some.inj H
  go_enter Try.func63, Try.ntmps63
  go_wp2
  go_ret
  exact ⟨by first | rfl | (simp; done) | (simp [*]; done), by repeat (first | exact Drawn0.refl _ | apply Drawn0.step)⟩
 ·rw [if_neg c2] at H
  have c2b0 : decide (a0 < 0) = false := decide_eq_false c2
  clear c2
  obtain rfl := Option.some.inj H
  go_enter Try.func63, Try.ntmps63
  go_wp2
  go_ret
  exact ⟨by first | rfl | (simp; done) | (simp [*]; done), by repeat (first | exact Drawn0.refl _ | apply Drawn0.step)⟩

/-- A call of a function without a body that the model answers itself. -/
def XCalls (P : Program) (f : FuncId) (args : Array Value) (w : World) (R : Ending → World → Prop) : Prop :=
 ∃ v, (callFunc f args).run P w = .ok (.value v) w ∧ R (.returned v) w
theorem XCalls.mono {P : Program} {f : FuncId} {args : Array Value} {w : World} {R R' : Ending → World → Prop} (h : XCalls P f args w R) (k : ∀ e w', R e w' → R' e w') : XCalls P f args w R' := by
 obtain ⟨v, h1, h2⟩ := h
 exact ⟨v, h1, k _ _ h2⟩
theorem goesX_ {P : Program} {ops : Array Oper} {Q : Exit → Act → World → Prop} {rest : List Oper} {oi : Oper} {a : Act} {w : World} (N : Option Tmp) (hd : oi.dst = N) (hg : oi.guard = none) {f : FuncId} {xs : Array Operand} {ts : Array TypeId} (args : Array Value)
  (hop : oi.op = .call { callee := .value (.func f), args := xs, argTypes := ts }) (hargs : xs.map a.eval = args)
  (h : XCalls P f args w fun e w' => ∃ v, e = .returned v ∧ wpList P ops Q rest (a.put N v) w') : wpList P ops Q (oi :: rest) a w := by
 obtain ⟨v, h1, v', h2, h3⟩ := h
 cases h2
 refine Kd.event_run hg ?_ (by rw [hd]; exact h3)
 unfold execOp
 simp [hop, resolve, Deferred.ofValue, invoke, Act.eval, hargs, h1]
/-! ### bits_Add64: function 64 -/
def bits_Add64.f (a0 a1 a2 : Int) : Option (Int × Int) := if 0 ≤ a0 ∧ 0 ≤ a1 ∧ 0 ≤ a2 ∧ a2 ≤ 1 then some ((a0 + a1 + a2) % 18446744073709551616, (a0 + a1 + a2) / 18446744073709551616) else none
theorem bits_Add64.calls (a0 a1 a2 r1 r2 : Int) (w : World) (h : bits_Add64.f a0 a1 a2 = some (r1, r2)) :
  XCalls Try.prog 64 #[.int .u64 a0, .int .u64 a1, .int .u64 a2] w fun e w' => e = .returned (.tuple #[.int .u64 r1, .int .u64 r2]) ∧ Drawn0 w w' := by
 unfold bits_Add64.f at h
 split at h
 ·rename_i hc
  simp only [Option.some.injEq, Prod.mk.injEq] at h
  obtain ⟨rfl, rfl⟩ := h
  refine ⟨_, ?_, rfl, Drawn0.refl _⟩
  rw [run_callFunc_extern (e := add64Entry) Try.func64 rfl (by kernel_rfl) (by kernel_rfl) (by kernel_rfl), run_add64 a0 a1 a2 hc.1 hc.2.1 hc.2.2.1 hc.2.2.2]
  rfl
 ·cases h

/-! ### fix_held: function 65 -/
def fix_held.j0 : Nat → Int → Int → Bool → Bool → Option (Int)
 | 0, _, _, _, _ => none
 | k + 1, x0, x1, x2, x7 => if x7 = true then (some (-9223372036854775808)) else (if x2 = true then (some (wrap64 (-(wrap64 (x1))))) else (if x0 > 0 then (some 9223372036854775807) else (if x1 ≥ 9223372036854775808 then (some 9223372036854775807) else (some (wrap64 (x1))))))
def fix_held.f (k : Nat) (a0 : Int) (a1 : Int) (a2 : Bool) : Option (Int) := if a2 = true then (if a0 > 0 then (fix_held.j0 k a0 a1 a2 true) else (fix_held.j0 k a0 a1 a2 (decide (a1 ≥ 9223372036854775808)))) else (fix_held.j0 k a0 a1 a2 false)
theorem fix_held.mono_l : ∀ k, (∀ y0 y1 y2 y3, LeO (fix_held.j0 k y0 y1 y2 y3) (fix_held.j0 (k + 1) y0 y1 y2 y3))
 | 0 => fun _ _ _ _ r h => by simp [fix_held.j0] at h
 | k + 1 => by
  have ih0 := fix_held.mono_l k
  ·intro y0 y1 y2 y3
   unfold fix_held.j0
   repeat' first
   | (with_reducible exact ih0 _ _ _ _)
   | (with_reducible exact LeO.refl _)
   | (with_reducible exact LeO.none _)
   | (with_reducible refine LeO.ite ?_ ?_)
   | (with_reducible refine LeO.bind ?_ (fun _ => ?_))
   | exact ih0 _ _ _ _
   | exact LeO.none _
   | refine LeO.ite ?_ ?_
   | refine LeO.bind ?_ (fun _ => ?_)
theorem fix_held.mono : ∀ a0 a1 a2 k, LeO (fix_held.f k a0 a1 a2) (fix_held.f (k + 1) a0 a1 a2) := by
 intro a0 a1 a2 k
 have ih0 := fix_held.mono_l k
 unfold fix_held.f
 repeat' first
   | (with_reducible exact ih0 _ _ _ _)
   | (with_reducible exact LeO.refl _)
   | (with_reducible exact LeO.none _)
   | (with_reducible refine LeO.ite ?_ ?_)
   | (with_reducible refine LeO.bind ?_ (fun _ => ?_))
   | exact ih0 _ _ _ _
   | exact LeO.none _
   | refine LeO.ite ?_ ?_
   | refine LeO.bind ?_ (fun _ => ?_)
set_option maxHeartbeats 8000000 in
set_option maxRecDepth 100000 in
theorem fix_held.calls (k : Nat) (a0 : Int) (a1 : Int) (a2 : Bool) (r : Int) (w : World) (h : fix_held.f k a0 a1 a2 = some r) :
  Calls Try.prog 65 #[.int .u64 a0, .int .u64 a1, .bool a2] w fun e w' => e = .returned (.int .i64 r) ∧ Drawn0 w w' := by
 have H : (if a2 = true then (if a0 > 0 then (fix_held.j0 k a0 a1 a2 true) else (fix_held.j0 k a0 a1 a2 (decide (a1 ≥ 9223372036854775808)))) else (fix_held.j0 k a0 a1 a2 false)) = some r := h
 clear h
 have HC4 := Aside0.mk H
 clear H
 go_enter Try.func65, Try.ntmps65
 go_upto_region 1 with (fail)
 go_cut [7] (fun v7 wc => ∃ (kq : Nat) (x7_3 : Bool), v7 = .bool x7_3 ∧ Aside0 (fix_held.j0 kq a0 a1 a2 x7_3 = some r) ∧ Aside0 (kq ≤ k) ∧ Drawn0 w wc)
 case first =>
  have H := HC4.out
  clear HC4
  by_cases c5 : a2 = true
  ·subst c5
   have H1 := H
   rw [if_pos rfl] at H1
   clear H
   have H := H1
   clear H1
   by_cases c6 : a0 > 0
   ·rw [if_pos c6] at H
    have c6b0 : decide (0 < a0) = true := decide_eq_true c6
    clear c6
    (first | rw [c6b0] | (simp only [i64_w, i32_w]; rw [c6b0]) | skip)
    have H' := Aside0.mk H
    clear H
    go_wp2
    go_meet
    case rel => exact ⟨_, (true), (by first | rfl | (simp; done) | (simp [*]; done)), H', ⟨by first | omega | exact Nat.le_refl _⟩, by repeat (first | exact Drawn0.refl _ | apply Drawn0.step)⟩
   ·rw [if_neg c6] at H
    have c6b0 : decide (0 < a0) = false := decide_eq_false c6
    clear c6
    (first | rw [c6b0] | (simp only [i64_w, i32_w]; rw [c6b0]) | skip)
    have H' := Aside0.mk H
    clear H
    go_wp2
    go_meet
    case rel => exact ⟨_, (decide (a1 ≥ 9223372036854775808)), (by first | rfl | (simp; done) | (simp [*]; done)), H', ⟨by first | omega | exact Nat.le_refl _⟩, by repeat (first | exact Drawn0.refl _ | apply Drawn0.step)⟩
  ·replace c5 := Bool.eq_false_iff.mpr c5
   subst c5
   have H1 : (fix_held.j0 k a0 a1 false false) = some r := by rw [if_neg (show ¬ (false = true) by decide)] at H; exact H
   clear H
   have H := H1
   clear H1
   have H' := Aside0.mk H
   clear H
   go_wp2
   go_meet
   case rel => exact ⟨_, (false), (by first | rfl | (simp; done) | (simp [*]; done)), H', ⟨by first | omega | exact Nat.le_refl _⟩, by repeat (first | exact Drawn0.refl _ | apply Drawn0.step)⟩
 case rest =>
  clear HC4
  try clear p2
  try clear c5
  try clear c6
  try clear c6b0
  obtain ⟨kq, x7_3, rfl, HA, HJ3, ⟨mc3, rfl⟩⟩ := hcut
  cases kq with
  | zero => exact absurd HA.out (by simp [fix_held.j0])
  | succ kj3 =>
   have H := HA.out
   clear HA
   simp only [fix_held.j0] at H
   by_cases c7 : x7_3 = true
   ·subst c7
    have H1 : (some (-9223372036854775808)) = some r := by rw [if_pos rfl] at H; exact H
    clear H
    have H := H1
    clear H1
    obtain rfl := Option.some.inj H
    go_wp2
    go_ret
    exact ⟨by first | rfl | (simp; done) | (simp [*]; done), by repeat (first | exact Drawn0.refl _ | apply Drawn0.step)⟩
   ·replace c7 := Bool.eq_false_iff.mpr c7
    subst c7
    have H1 := H
    rw [if_neg (show ¬ (false = true) by decide)] at H1
    clear H
    have H := H1
    clear H1
    by_cases c8 : a2 = true
    ·subst c8
     have H1 : (some (wrap64 (-(wrap64 (a1))))) = some r := by rw [if_pos rfl] at H; exact H
     clear H
     have H := H1
     clear H1
     obtain rfl := Option.some.inj H
     go_wp2
     go_ret
     exact ⟨by first | rfl | (simp; done) | (simp [*]; done), by repeat (first | exact Drawn0.refl _ | apply Drawn0.step)⟩
    ·replace c8 := Bool.eq_false_iff.mpr c8
     subst c8
     have H1 := H
     rw [if_neg (show ¬ (false = true) by decide)] at H1
     clear H
     have H := H1
     clear H1
     by_cases c9 : a0 > 0
     ·rw [if_pos c9] at H
      have c9b0 : decide (0 < a0) = true := decide_eq_true c9
      clear c9
      obtain rfl := Option.some.inj H
      go_wp2
      go_ret
      exact ⟨by first | rfl | (simp; done) | (simp [*]; done), by repeat (first | exact Drawn0.refl _ | apply Drawn0.step)⟩
     ·rw [if_neg c9] at H
      have c9b0 : decide (0 < a0) = false := decide_eq_false c9
      clear c9
      by_cases c10 : a1 ≥ 9223372036854775808
      ·rw [if_pos c10] at H
       have c10b0 : decide (9223372036854775808 ≤ a1) = true := decide_eq_true c10
       clear c10
       obtain rfl := Option.some.inj H
       go_wp2
       go_ret
       exact ⟨by first | rfl | (simp; done) | (simp [*]; done), by repeat (first | exact Drawn0.refl _ | apply Drawn0.step)⟩
      ·rw [if_neg c10] at H
       have c10b0 : decide (9223372036854775808 ≤ a1) = false := decide_eq_false c10
       clear c10
       obtain rfl := Option.some.inj H
       go_wp2
       go_ret
       exact ⟨by first | rfl | (simp; done) | (simp [*]; done), by repeat (first | exact Drawn0.refl _ | apply Drawn0.step)⟩

end Go.Proofs.Ytbdhabpplidgfaa.PTensNone
