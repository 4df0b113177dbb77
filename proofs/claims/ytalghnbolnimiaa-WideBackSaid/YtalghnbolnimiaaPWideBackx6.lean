/- The functions that the law WideBack reaches, as Lean functions, and that each call of the Go function does what its Lean function says, wherever that one answers. Written by a program of mine over the print of the kit; Lean checks it. -/
import Derived.Test.YtalghnbolnimiaaPWideBackx0
import Derived.Test.YtalghnbolnimiaaPWideBackx1
import Derived.Test.YtalghnbolnimiaaPWideBackx4
import Derived.Test.YtalghnbolnimiaaPWideBackx5
namespace Go.Proofs.Ytalghnbolnimiaa.PWideBack
open Go.RowKit Go.Proofs.YtalghnbolnimiaaW.PrintWords Go.Proofs.YtalghnbolnimiaaW.PrintLast Go.Proofs.YtalghnbolnimiaaW.PrintMore
attribute [local go_sem] max2_int min2_int max_two min_two max_three min_three max_four min_four   -- for this text's walks alone
set_option linter.unusedVariables false
set_option linter.unusedSimpArgs false

attribute [local go_sem high] eqA25
/-! ### carousellaw2_WideBack: function 7 -/
def carousellaw2_WideBack.j0 : Nat → List Int → Int → Bool → Int → Int → Option (Bool)
 | 0, _, _, _, _, _ => none
 | k + 1, x1, x8, x40, x215000, x215001 => if x40 = true then (none) else (if (x1.length : Int) = 16 then (if x8 = 0 then ((wide_Put.f k x215000 x215001).bind fun t221 => (some ((strOfNums t221).toList == (strOfNums x1).toList))) else (none)) else (if x8 = 3 then (some (x215000 == 0 && (x215001 == 0))) else (none)))
def carousellaw2_WideBack.f (k : Nat) (a0_0 : Int) (a0_1 : Int) (l1 : List Int) : Option (Bool) := (carousellaw2_awake.f k).bind fun t203 => (if t203 = true then (if (l1.length : Int) > 100 then (some true) else ((wide_Put.f k a0_0 a0_1).bind fun t204 => ((wide_Get.f t204).bind fun bt207 => ((wide_Get.f l1).bind fun bt211 => (if bt207.2.2 = 0 then (if (!(bt207.1 == a0_0) || (!(bt207.2.1 == a0_1))) = true then (carousellaw2_WideBack.j0 k l1 bt211.2.2 true bt211.1 bt211.2.1) else ((wide_Put.f k a0_0 a0_1).bind fun t215 => ((carouselref1_WPut.f a0_0 a0_1).bind fun t218 => (carousellaw2_WideBack.j0 k l1 bt211.2.2 ((strOfNums t215).toList != (strOfNums t218).toList) bt211.1 bt211.2.1)))) else (carousellaw2_WideBack.j0 k l1 bt211.2.2 true bt211.1 bt211.2.1)))))) else (none))
theorem carousellaw2_WideBack.mono_l : ∀ k, (∀ y0 y1 y2 y3 y4, LeO (carousellaw2_WideBack.j0 k y0 y1 y2 y3 y4) (carousellaw2_WideBack.j0 (k + 1) y0 y1 y2 y3 y4))
 | 0 => fun _ _ _ _ _ r h => by simp [carousellaw2_WideBack.j0] at h
 | k + 1 => by
  have ih0 := carousellaw2_WideBack.mono_l k
  ·intro y0 y1 y2 y3 y4
   unfold carousellaw2_WideBack.j0
   repeat' first
   | (with_reducible exact ih0 _ _ _ _ _)
   | (with_reducible exact wide_Put.mono _ _ _)
   | (with_reducible exact LeO.refl _)
   | (with_reducible exact LeO.none _)
   | (with_reducible refine LeO.ite ?_ ?_)
   | (with_reducible refine LeO.bind ?_ (fun _ => ?_))
   | exact ih0 _ _ _ _ _
   | exact wide_Put.mono _ _ _
   | exact LeO.none _
   | refine LeO.ite ?_ ?_
   | refine LeO.bind ?_ (fun _ => ?_)
theorem carousellaw2_WideBack.mono : ∀ a0 a1 a2 k, LeO (carousellaw2_WideBack.f k a0 a1 a2) (carousellaw2_WideBack.f (k + 1) a0 a1 a2) := by
 intro a0 a1 a2 k
 have ih0 := carousellaw2_WideBack.mono_l k
 unfold carousellaw2_WideBack.f
 repeat' first
   | (with_reducible exact ih0 _ _ _ _ _)
   | (with_reducible exact carousellaw2_awake.mono _)
   | (with_reducible exact wide_Put.mono _ _ _)
   | (with_reducible exact LeO.refl _)
   | (with_reducible exact LeO.none _)
   | (with_reducible refine LeO.ite ?_ ?_)
   | (with_reducible refine LeO.bind ?_ (fun _ => ?_))
   | exact ih0 _ _ _ _ _
   | exact carousellaw2_awake.mono _
   | exact wide_Put.mono _ _ _
   | exact LeO.none _
   | refine LeO.ite ?_ ?_
   | refine LeO.bind ?_ (fun _ => ?_)
def carousellaw2_WideBack.T7 : Bool × List (List Nat × List Nat) := (true, [([], []), ([0], [0]), ([1], [1]), ([2], [2]), ([2], [2]), ([3, 4, 2], [2, 3, 4]), ([2, 5], [2, 5]), ([6, 2], [6]), ([7], [7]), ([8, 7, 7], [7, 8]), ([9, 7], [7, 9]), ([7], [7]), ([11, 9, 7], [7, 11]), ([12, 7], [7, 12]), ([10, 13, 7], [7, 10, 13]), ([7, 14], [7, 14])])
def carousellaw2_WideBack.B7 : List Nat := [0, 1, 3, 7, 7, 31, 63, 127, 255, 511, 1023, 255, 3071, 7167, 16383, 32767]
theorem carousellaw2_WideBack.tab7 : rtab .any (opsOf Try.f7 7) = carousellaw2_WideBack.T7 := by kernel_rfl
theorem carousellaw2_WideBack.bits7 : waitsOk carousellaw2_WideBack.T7.2 carousellaw2_WideBack.B7 = true := by kernel_rfl
def carousellaw2_WideBack.T11 : Bool × List (List Nat × List Nat) := (true, [([], []), ([0], [0]), ([1], [1]), ([2], [2]), ([3, 2, 2], [2, 3]), ([4, 2], [2, 4]), ([2], [2]), ([6, 2], [2, 6]), ([5, 7, 2], [2, 5, 7]), ([2, 8], [2, 8]), ([9, 4, 0, 1, 2, 3, 4, 5, 6, 7, 8, 9], [9])])
def carousellaw2_WideBack.B11 : List Nat := [0, 1, 3, 7, 15, 31, 7, 71, 255, 511, 1023]
theorem carousellaw2_WideBack.tab11 : rtab .any (opsOf Try.f7 11) = carousellaw2_WideBack.T11 := by kernel_rfl
theorem carousellaw2_WideBack.bits11 : waitsOk carousellaw2_WideBack.T11.2 carousellaw2_WideBack.B11 = true := by kernel_rfl
set_option maxHeartbeats 8000000 in
set_option maxRecDepth 100000 in
theorem carousellaw2_WideBack.calls (k : Nat) (a0_0 : Int) (a0_1 : Int) (A1 : Option Addr) (c1 : Nat) (l1 : List Int) (r : Bool) (w : World) (hr1 : Kd.C (Kd.int .u8) w A1 l1.length l1) (hc1 : l1.length ≤ c1) (h : carousellaw2_WideBack.f k a0_0 a0_1 l1 = some r) :
  Calls Try.prog 7 #[.agg #[.int .i64 a0_0, .int .u64 a0_1], .slice A1 l1.length c1] w fun e w' => e = .returned (.bool r) ∧ Below w.heap.size w w' := by
 have hu25 := Try.underlying25
 have HR1 := Aside0.mk hr1
 have HC1 := Aside0.mk hc1
 clear hr1 hc1
 have HB := Aside0.mk (Below.refl w.heap.size w)
 have H : ((carousellaw2_awake.f k).bind fun t203 => (if t203 = true then (if (l1.length : Int) > 100 then (some true) else ((wide_Put.f k a0_0 a0_1).bind fun t204 => ((wide_Get.f t204).bind fun bt207 => ((wide_Get.f l1).bind fun bt211 => (if bt207.2.2 = 0 then (if (!(bt207.1 == a0_0) || (!(bt207.2.1 == a0_1))) = true then (carousellaw2_WideBack.j0 k l1 bt211.2.2 true bt211.1 bt211.2.1) else ((wide_Put.f k a0_0 a0_1).bind fun t215 => ((carouselref1_WPut.f a0_0 a0_1).bind fun t218 => (carousellaw2_WideBack.j0 k l1 bt211.2.2 ((strOfNums t215).toList != (strOfNums t218).toList) bt211.1 bt211.2.1)))) else (carousellaw2_WideBack.j0 k l1 bt211.2.2 true bt211.1 bt211.2.1)))))) else (none))) = some r := h
 clear h
 replace H := Option.bind_eq_some_iff.mp H
 obtain ⟨t203, A30, H⟩ := H
 (try dsimp only at H)
 have A3 := Aside0.mk A30
 clear A30
 by_cases c4 : t203 = true
 rotate_left
 ·replace c4 := Bool.eq_false_iff.mpr c4
  subst c4
  have H1 : (none) = some r := by rw [if_neg (show ¬ (false = true) by decide)] at H; exact H
  clear H
  have H := H1
  clear H1
  exact absurd H (by simp)
 subst c4
 have H1 := H
 rw [if_pos rfl] at H1
 clear H
 have H := H1
 clear H1
 by_cases c5 : (l1.length : Int) > 100
 ·rw [if_pos c5] at H
  have c5b0 : decide (100 < (l1.length : Int)) = true := decide_eq_true c5
  have c5b1 : decide (100 < l1.length) = true := decide_eq_true (by omega)
  clear c5
  obtain rfl := Option.some.inj H
  go_enter Try.func7, Try.ntmps7
  go_wp2_with (first | ((with_reducible refine gate_dst (N := 2) rfl ?_); refine box_event ?hg (N := 2) ?hd (cs := #[.int .i64 a0_0, .int .u64 a0_1]) (t := 25) ?hr ?_; (case hd => rfl); (case hg => rfl); (case hr => first | (go_simp; done) | (go_simp; rfl)); intro gb202 hg w6 hbox hb; have BK202 := Aside0.mk (hbox); have GW202 := Aside0.mk (zs_ hg (zw0_ HB)); have GE202 := Aside0.mk (zs_ hg (zw0_ HB)); replace HB := Aside0.mk (below_step (zw0_ HB) hb); clear hb hbox hg) | ((with_reducible refine gate_callee (f := 11) rfl ?_); refine zg_ (some 9) Try.func11 #[] (h := ?_); (with_reducible refine (carousellaw2_awake.calls k  true _ A3.out).mono ?_); rintro e w7 ⟨rfl, hb⟩; refine ⟨_, rfl, ?_⟩; replace BK202 := za_ BK202 hb; replace HB := Aside0.mk (below_step (zw1_ HB GE202) hb); (try clear hb)))
  go_ret
  exact ⟨z0_, zw1_ HB GE202⟩
 rw [if_neg c5] at H
 have c5b0 : decide (100 < (l1.length : Int)) = false := decide_eq_false c5
 have c5b1 : decide (100 < l1.length) = false := decide_eq_false (by omega)
 clear c5
 replace H := Option.bind_eq_some_iff.mp H
 obtain ⟨t204, A80, H⟩ := H
 (try dsimp only at H)
 have A8 := Aside0.mk A80
 clear A80
 replace H := Option.bind_eq_some_iff.mp H
 obtain ⟨⟨t207, t208, t209⟩, A90, H⟩ := H
 (try dsimp only at H)
 have A9 := Aside0.mk A90
 clear A90
 replace H := Option.bind_eq_some_iff.mp H
 obtain ⟨⟨t211, t212, t213⟩, A100, H⟩ := H
 (try dsimp only at H)
 have A10 := Aside0.mk A100
 clear A100
 have HC11 := Aside0.mk H
 clear H
 go_enter Try.func7, Try.ntmps7
 go_upto_region 7 with (first | ((with_reducible refine gate_dst (N := 2) rfl ?_); refine box_event ?hg (N := 2) ?hd (cs := #[.int .i64 a0_0, .int .u64 a0_1]) (t := 25) ?hr ?_; (case hd => rfl); (case hg => rfl); (case hr => first | (go_simp; done) | (go_simp; rfl)); intro gb202 hg w12 hbox hb; have BK202 := Aside0.mk (hbox); have GW202 := Aside0.mk (zs_ hg (zw0_ HB)); have GE202 := Aside0.mk (zs_ hg (zw0_ HB)); replace HB := Aside0.mk (below_step (zw0_ HB) hb); clear hb hbox hg) | ((with_reducible refine gate_callee (f := 11) rfl ?_); refine zg_ (some 9) Try.func11 #[] (h := ?_); (with_reducible refine (carousellaw2_awake.calls k  true _ A3.out).mono ?_); rintro e w13 ⟨rfl, hb⟩; refine ⟨_, rfl, ?_⟩; replace BK202 := za_ BK202 hb; replace HB := Aside0.mk (below_step (zw1_ HB GE202) hb); (try clear hb); have hcz14_0 := zx_ (v := .int .i64 a0_0) BK202 0; have hcz14_1 := zx_ (v := .int .u64 a0_1) BK202 1; have hfz14_0 := blk_frozen BK202.out 0; have hfz14_1 := blk_frozen BK202.out 1) | ((with_reducible refine gate_callee (f := 26) rfl ?_); refine zg_ (some 16) Try.func26 #[.agg #[.int .i64 a0_0, .int .u64 a0_1]] (h := ?_); (with_reducible refine (wide_Put.calls k a0_0 a0_1 t204 _ A8.out).mono ?_); rintro e w15 ⟨v205, rfl, ho0, hb⟩; refine ⟨_, rfl, ?_⟩; have HO206 := Aside0.mk (Kd.R_lower ho0 (below_size (zw1_ HB GE202))); replace BK202 := za_ BK202 hb; replace HB := Aside0.mk (below_step (zw1_ HB GE202) hb); (try clear hb); (try clear ho0); obtain ⟨Ao16, co16, eo16⟩ := Kd.R_slice HO206.out; subst eo16) | ((with_reducible refine gate_callee (f := 25) rfl ?_); refine zg_ (some 17) Try.func25 #[.slice Ao16 t204.length co16] (h := ?_); (with_reducible refine (wide_Get.calls _ _ t204 t207 t208 t209 _ ?side1 ?side2 A9.out).mono ?_); (case side1 => exact zk_ ((Kd.R_reads' HO206.out).2.2)); (case side2 => exact (Kd.R_reads' HO206.out).2.1); rintro e w17 ⟨rfl, hb⟩; refine ⟨_, rfl, ?_⟩; replace HO206 := zy_ HO206 hb; replace BK202 := za_ BK202 hb; replace HB := Aside0.mk (below_step (zw1_ HB GE202) hb); (try clear hb)) | ((with_reducible refine gate_dst (N := 5) rfl ?_); refine box_event ?hg (N := 5) ?hd (cs := #[.int .i64 0, .int .u64 0]) (t := 25) ?hr ?_; (case hd => rfl); (case hg => rfl); (case hr => first | (go_simp; done) | (go_simp; rfl)); intro gb210 hg w18 hbox hb; replace HO206 := zy_ HO206 hb; have BK210 := Aside0.mk (hbox); have GW210 := Aside0.mk (zs_ hg (zw1_ HB GE202)); have GE210 := Aside0.mk (zs_ hg (zw1_ HB GE202)); replace HB := Aside0.mk (below_step (zw1_ HB GE202) hb); have NB202_210 := Aside0.mk (zn_ hg BK202); have NB210_202 := Aside0.mk (zm_ hg BK202); replace BK202 := za_ BK202 hb; clear hb hbox hg; have hnb19 := NB210_202.out; have hnc19 := NB202_210.out; have hcz20_0 := zx_ (v := .int .i64 0) BK210 0; have hcz20_1 := zx_ (v := .int .u64 0) BK210 1; have hfz20_0 := blk_frozen BK210.out 0; have hfz20_1 := blk_frozen BK210.out 1) | ((with_reducible refine gate_callee (f := 25) rfl ?_); refine zg_ (some 22) Try.func25 #[.slice A1 l1.length c1] (h := ?_); (with_reducible refine (wide_Get.calls _ _ l1 t211 t212 t213 _ ?side1 ?side2 A10.out).mono ?_); (case side1 => exact Kd.C_below HR1.out (zw2_ HB GE202 GE210)); (case side2 => exact HC1.out); rintro e w21 ⟨rfl, hb⟩; refine ⟨_, rfl, ?_⟩; replace HO206 := Aside0.mk (Kd.R_below (zr_ ((zf_ HO206 BK210 (.int .i64 t207) (.int .u64 t208)))) hb); replace BK202 := Aside0.mk (blk_below (g := gb202) (o := .cells #[.int .i64 a0_0, .int .u64 a0_1] 25 (0, 0)) (zv1_ BK202 NB202_210) hb); replace BK210 := Aside0.mk (blk_below (g := gb210) (o := .cells #[.int .i64 t207, .int .u64 t208] 25 (0, 0)) (zo2_ BK210) hb); replace HB := Aside0.mk (below_step (zw2_ HB GE202 GE210) hb); (try clear hb); (try clear hk); (try clear hi)) | ((with_reducible refine gate_dst (N := 7) rfl ?_); refine box_event ?hg (N := 7) ?hd (cs := #[.int .i64 0, .int .u64 0]) (t := 25) ?hr ?_; (case hd => rfl); (case hg => rfl); (case hr => first | (go_simp; done) | (go_simp; rfl)); intro gb214 hg w22 hbox hb; replace HO206 := zy_ HO206 hb; have BK214 := Aside0.mk (hbox); have GW214 := Aside0.mk (zs_ hg (zw2_ HB GE202 GE210)); have GE214 := Aside0.mk (zs_ hg (zw2_ HB GE202 GE210)); replace HB := Aside0.mk (below_step (zw2_ HB GE202 GE210) hb); have NB202_214 := Aside0.mk (zn_ hg BK202); have NB214_202 := Aside0.mk (zm_ hg BK202); replace BK202 := za_ BK202 hb; have NB210_214 := Aside0.mk (zn_ hg BK210); have NB214_210 := Aside0.mk (zm_ hg BK210); replace BK210 := za_ BK210 hb; clear hb hbox hg; have hnb23 := NB214_202.out; have hnc23 := NB202_214.out; have hnb24 := NB214_210.out; have hnc24 := NB210_214.out; have hcz25_0 := zx_ (v := .int .i64 0) BK214 0; have hcz25_1 := zx_ (v := .int .u64 0) BK214 1; have hfz25_0 := blk_frozen BK214.out 0; have hfz25_1 := blk_frozen BK214.out 1))
 (try simp only [Act.put, List.setIfInBounds_toArray, List.set_cons_zero, List.set_cons_succ])
 go_cut [40] (fun v40 wc => ∃ (kq : Nat) (x40_10 : Bool), v40 = .bool x40_10 ∧ Aside0 (carousellaw2_WideBack.j0 kq l1 t213 x40_10 t211 t212 = some r) ∧ Aside0 (kq ≤ k) ∧ Aside0 (wc.heap[gb202]? = some (.cells #[.int .i64 a0_0, .int .u64 a0_1] 25 (0, 0))) ∧ Aside0 (wc.heap[gb210]? = some (.cells #[.int .i64 t207, .int .u64 t208] 25 (0, 0))) ∧ Aside0 (wc.heap[gb214]? = some (.cells #[.int .i64 t211, .int .u64 t212] 25 (0, 0))) ∧ Aside0 (Below w.heap.size w wc))
 case first =>
  have H := HC11.out
  clear HC11
  by_cases c26 : t209 = 0
  rotate_left
  ·rw [if_neg c26] at H
   have c26b0 : (t209 == 0) = false := beq_eq_false_iff_ne.mpr c26
   have c26b1 : (t209 != 0) = true := bne_iff_ne.mpr c26
   (first | rw [c26b0] | (simp only [i64_w, i32_w]; rw [c26b0]) | skip)
   have H' := Aside0.mk H
   clear H
   try go_wp2
   have n0_ : Aside0 (Kd.R (Kd.int .u8) 5 ((w22.setCell ⟨gb214, 0, none⟩ (.int .i64 t211)).setCell ⟨gb214, 1, none⟩ (.int .u64 t212)) w.heap.size (fun _ => True) (.slice Ao16 t204.length co16) t204) := ⟨zr_ (Kd.R_mono (Kd.R_far (p := ⟨gb214, 1, none⟩) (Kd.R_far (p := ⟨gb214, 0, none⟩) (Kd.R_types HO206.out BK214.out (by decide)) (fun _ hk => hk.2) (.int .i64 t211)) (fun _ hk => hk.2) (.int .u64 t212)) (fun _ hk => trivial))⟩
   have n1_ : Aside0 (((w22.setCell ⟨gb214, 0, none⟩ (.int .i64 t211)).setCell ⟨gb214, 1, none⟩ (.int .u64 t212)).heap[gb202]? = some (.cells #[.int .i64 a0_0, .int .u64 a0_1] 25 (0, 0))) := ⟨zv1_ BK202 NB202_214⟩
   have n2_ : Aside0 (((w22.setCell ⟨gb214, 0, none⟩ (.int .i64 t211)).setCell ⟨gb214, 1, none⟩ (.int .u64 t212)).heap[gb210]? = some (.cells #[.int .i64 t207, .int .u64 t208] 25 (0, 0))) := ⟨zv1_ BK210 NB210_214⟩
   have n3_ : Aside0 (((w22.setCell ⟨gb214, 0, none⟩ (.int .i64 t211)).setCell ⟨gb214, 1, none⟩ (.int .u64 t212)).heap[gb214]? = some (.cells #[.int .i64 t211, .int .u64 t212] 25 (0, 0))) := ⟨zo2_ BK214⟩
   have n4_ : Aside0 (Below w.heap.size w ((w22.setCell ⟨gb214, 0, none⟩ (.int .i64 t211)).setCell ⟨gb214, 1, none⟩ (.int .u64 t212))) := ⟨zw3_ HB GE202 GE210 GE214⟩
   (try clear HO206)
   (try clear BK202)
   (try clear BK210)
   (try clear BK214)
   (try clear HB)
   generalize ((w22.setCell ⟨gb214, 0, none⟩ (.int .i64 t211)).setCell ⟨gb214, 1, none⟩ (.int .u64 t212)) = w39 at n0_ n1_ n2_ n3_ n4_ ⊢
   have HO206 := n0_
   have BK202 := n1_
   have BK210 := n2_
   have BK214 := n3_
   have HB := n4_
   clear n0_ n1_ n2_ n3_ n4_
   replace HO206 := Aside0.mk (Kd.R_drew HO206.out)
   replace BK202 := Aside0.mk (blk_drew BK202.out)
   replace BK210 := Aside0.mk (blk_drew BK210.out)
   replace BK214 := Aside0.mk (blk_drew BK214.out)
   replace HB := Aside0.mk (below_drew1 HB.out)
   refine start_ (n := 16) (S := fun w' => True) (ds := []) #[false, false, false, false, false, false, false, false, false, false, false, false, false, false, false, false] (by kernel_rfl) rfl rfl trivial (fun hHeld => ?_); refine with_tabW carousellaw2_WideBack.tab7 carousellaw2_WideBack.bits7 (fun HT_ HW_ => ?_)
   generalize w39.drew = w40 at HO206 BK202 BK210 BK214 HB hHeld ⊢
   refine yp_ ?_ 0 25
   refine yp_ ?_ 1 26
   refine yp_ ?_ 2 27
   refine yu_ ?_ 3 28
   refine yu_ ?_ 4 29
   refine yu_ ?_ 5 30
   refine yp_ ?_ 6 31
   refine yp_ ?_ 7 32
   refine yu_ ?_ 8 33
   refine yu_ ?_ 9 34
   refine yu_ ?_ 10 35
   refine yu_ ?_ 11 36
   refine yu_ ?_ 12 37
   refine yu_ ?_ 13 38
   refine yu_ ?_ 14 39
   refine yp_ ?_ 15 40
   refine done_ (done_of HT_.out (by kernel_rfl)) ?_
   try go_wp2
   go_meet
   case rel => exact ⟨_, (true), z1_, H', ⟨by first | omega | exact Nat.le_refl _⟩, ⟨zb_ BK202⟩, ⟨zb_ BK210⟩, ⟨zb_ BK214⟩, ⟨zw3_ HB GE202 GE210 GE214⟩⟩
  rw [if_pos c26] at H
  have c26b0 : (t209 == 0) = true := beq_iff_eq.mpr c26
  have c26b1 : (t209 != 0) = false := bne_eq_false_iff_eq.mpr c26
  clear c26
  (first | rw [c26b0] | (simp only [i64_w, i32_w]; rw [c26b0]) | skip)
  by_cases c27 : (!(t207 == a0_0) || (!(t208 == a0_1))) = true
  ·rw [if_pos c27] at H
   have c27b0 : (!(t207 == a0_0) || (!(t208 == a0_1))) = true := c27
   clear c27
   have H' := Aside0.mk H
   clear H
   try go_wp2
   have n0_ : Aside0 (Kd.R (Kd.int .u8) 5 ((w22.setCell ⟨gb214, 0, none⟩ (.int .i64 t211)).setCell ⟨gb214, 1, none⟩ (.int .u64 t212)) w.heap.size (fun _ => True) (.slice Ao16 t204.length co16) t204) := ⟨zr_ (Kd.R_mono (Kd.R_far (p := ⟨gb214, 1, none⟩) (Kd.R_far (p := ⟨gb214, 0, none⟩) (Kd.R_types HO206.out BK214.out (by decide)) (fun _ hk => hk.2) (.int .i64 t211)) (fun _ hk => hk.2) (.int .u64 t212)) (fun _ hk => trivial))⟩
   have n1_ : Aside0 (((w22.setCell ⟨gb214, 0, none⟩ (.int .i64 t211)).setCell ⟨gb214, 1, none⟩ (.int .u64 t212)).heap[gb202]? = some (.cells #[.int .i64 a0_0, .int .u64 a0_1] 25 (0, 0))) := ⟨zv1_ BK202 NB202_214⟩
   have n2_ : Aside0 (((w22.setCell ⟨gb214, 0, none⟩ (.int .i64 t211)).setCell ⟨gb214, 1, none⟩ (.int .u64 t212)).heap[gb210]? = some (.cells #[.int .i64 t207, .int .u64 t208] 25 (0, 0))) := ⟨zv1_ BK210 NB210_214⟩
   have n3_ : Aside0 (((w22.setCell ⟨gb214, 0, none⟩ (.int .i64 t211)).setCell ⟨gb214, 1, none⟩ (.int .u64 t212)).heap[gb214]? = some (.cells #[.int .i64 t211, .int .u64 t212] 25 (0, 0))) := ⟨zo2_ BK214⟩
   have n4_ : Aside0 (Below w.heap.size w ((w22.setCell ⟨gb214, 0, none⟩ (.int .i64 t211)).setCell ⟨gb214, 1, none⟩ (.int .u64 t212))) := ⟨zw3_ HB GE202 GE210 GE214⟩
   (try clear HO206)
   (try clear BK202)
   (try clear BK210)
   (try clear BK214)
   (try clear HB)
   generalize ((w22.setCell ⟨gb214, 0, none⟩ (.int .i64 t211)).setCell ⟨gb214, 1, none⟩ (.int .u64 t212)) = w28 at n0_ n1_ n2_ n3_ n4_ ⊢
   have HO206 := n0_
   have BK202 := n1_
   have BK210 := n2_
   have BK214 := n3_
   have HB := n4_
   clear n0_ n1_ n2_ n3_ n4_
   replace HO206 := Aside0.mk (Kd.R_drew HO206.out)
   replace BK202 := Aside0.mk (blk_drew BK202.out)
   replace BK210 := Aside0.mk (blk_drew BK210.out)
   replace BK214 := Aside0.mk (blk_drew BK214.out)
   replace HB := Aside0.mk (below_drew1 HB.out)
   refine start_ (n := 16) (S := fun w' => w'.cell? ⟨gb210, 0, none⟩ = some (.int .i64 t207) ∧ w'.cell? ⟨gb210, 1, none⟩ = some (.int .u64 t208) ∧ w'.cell? ⟨gb202, 0, none⟩ = some (.int .i64 a0_0) ∧ w'.cell? ⟨gb202, 1, none⟩ = some (.int .u64 a0_1)) (ds := []) #[false, false, false, false, false, false, false, false, false, false, false, false, false, false, false, false] (by kernel_rfl) rfl rfl ⟨(blk_cell BK210.out 0).trans rfl, (blk_cell BK210.out 1).trans rfl, (blk_cell BK202.out 0).trans rfl, (blk_cell BK202.out 1).trans rfl⟩ (fun hHeld => ?_); refine with_tabW carousellaw2_WideBack.tab7 carousellaw2_WideBack.bits7 (fun HT_ HW_ => ?_)
   generalize w28.drew = w29 at HO206 BK202 BK210 BK214 HB hHeld ⊢
   refine yp_ ?_ 0 25
   refine yp_ ?_ 1 26
   refine yp_ ?_ 2 27
   refine yt4_ ?_ 3 28
   refine yt4_ ?_ 4 29
   refine yp_ ?_ 5 30
   refine yp_ ?_ 6 31
   refine yp_ ?_ 7 32
   refine yu_ ?_ 8 33
   refine yu_ ?_ 9 34
   refine yu_ ?_ 10 35
   refine yu_ ?_ 11 36
   refine yu_ ?_ 12 37
   refine yu_ ?_ 13 38
   refine yu_ ?_ 14 39
   refine yp_ ?_ 15 40
   refine done_ (done_of HT_.out (by kernel_rfl)) ?_
   try go_wp2
   go_meet
   case rel => exact ⟨_, (true), z1_, H', ⟨by first | omega | exact Nat.le_refl _⟩, ⟨zb_ BK202⟩, ⟨zb_ BK210⟩, ⟨zb_ BK214⟩, ⟨zw3_ HB GE202 GE210 GE214⟩⟩
  rw [if_neg c27] at H
  have c27b0 : (!(t207 == a0_0) || (!(t208 == a0_1))) = false := by simpa using c27
  clear c27
  replace H := Option.bind_eq_some_iff.mp H
  obtain ⟨t215, A300, H⟩ := H
  (try dsimp only at H)
  have A30 := Aside0.mk A300
  clear A300
  replace H := Option.bind_eq_some_iff.mp H
  obtain ⟨t218, A310, H⟩ := H
  replace H : (carousellaw2_WideBack.j0 k l1 t213 ((strOfNums t215).toList != (strOfNums t218).toList) t211 t212) = some r := H
  have A31 := Aside0.mk A310
  clear A310
  have H' := Aside0.mk H
  clear H
  try go_wp2
  have n0_ : Aside0 (Kd.R (Kd.int .u8) 5 ((w22.setCell ⟨gb214, 0, none⟩ (.int .i64 t211)).setCell ⟨gb214, 1, none⟩ (.int .u64 t212)) w.heap.size (fun _ => True) (.slice Ao16 t204.length co16) t204) := ⟨zr_ (Kd.R_mono (Kd.R_far (p := ⟨gb214, 1, none⟩) (Kd.R_far (p := ⟨gb214, 0, none⟩) (Kd.R_types HO206.out BK214.out (by decide)) (fun _ hk => hk.2) (.int .i64 t211)) (fun _ hk => hk.2) (.int .u64 t212)) (fun _ hk => trivial))⟩
  have n1_ : Aside0 (((w22.setCell ⟨gb214, 0, none⟩ (.int .i64 t211)).setCell ⟨gb214, 1, none⟩ (.int .u64 t212)).heap[gb202]? = some (.cells #[.int .i64 a0_0, .int .u64 a0_1] 25 (0, 0))) := ⟨zv1_ BK202 NB202_214⟩
  have n2_ : Aside0 (((w22.setCell ⟨gb214, 0, none⟩ (.int .i64 t211)).setCell ⟨gb214, 1, none⟩ (.int .u64 t212)).heap[gb210]? = some (.cells #[.int .i64 t207, .int .u64 t208] 25 (0, 0))) := ⟨zv1_ BK210 NB210_214⟩
  have n3_ : Aside0 (((w22.setCell ⟨gb214, 0, none⟩ (.int .i64 t211)).setCell ⟨gb214, 1, none⟩ (.int .u64 t212)).heap[gb214]? = some (.cells #[.int .i64 t211, .int .u64 t212] 25 (0, 0))) := ⟨zo2_ BK214⟩
  have n4_ : Aside0 (Below w.heap.size w ((w22.setCell ⟨gb214, 0, none⟩ (.int .i64 t211)).setCell ⟨gb214, 1, none⟩ (.int .u64 t212))) := ⟨zw3_ HB GE202 GE210 GE214⟩
  (try clear HO206)
  (try clear BK202)
  (try clear BK210)
  (try clear BK214)
  (try clear HB)
  generalize ((w22.setCell ⟨gb214, 0, none⟩ (.int .i64 t211)).setCell ⟨gb214, 1, none⟩ (.int .u64 t212)) = w32 at n0_ n1_ n2_ n3_ n4_ ⊢
  have HO206 := n0_
  have BK202 := n1_
  have BK210 := n2_
  have BK214 := n3_
  have HB := n4_
  clear n0_ n1_ n2_ n3_ n4_
  replace HO206 := Aside0.mk (Kd.R_drew HO206.out)
  replace BK202 := Aside0.mk (blk_drew BK202.out)
  replace BK210 := Aside0.mk (blk_drew BK210.out)
  replace BK214 := Aside0.mk (blk_drew BK214.out)
  replace HB := Aside0.mk (below_drew1 HB.out)
  refine start_ (n := 16) (S := fun w' => w'.cell? ⟨gb210, 0, none⟩ = some (.int .i64 t207) ∧ w'.cell? ⟨gb210, 1, none⟩ = some (.int .u64 t208) ∧ w'.cell? ⟨gb202, 0, none⟩ = some (.int .i64 a0_0) ∧ w'.cell? ⟨gb202, 1, none⟩ = some (.int .u64 a0_1)) (ds := []) #[false, false, false, false, false, false, false, false, false, false, false, false, false, false, false, false] (by kernel_rfl) rfl rfl ⟨(blk_cell BK210.out 0).trans rfl, (blk_cell BK210.out 1).trans rfl, (blk_cell BK202.out 0).trans rfl, (blk_cell BK202.out 1).trans rfl⟩ (fun hHeld => ?_); refine with_tabW carousellaw2_WideBack.tab7 carousellaw2_WideBack.bits7 (fun HT_ HW_ => ?_)
  generalize w32.drew = w33 at HO206 BK202 BK210 BK214 HB hHeld ⊢
  refine yp_ ?_ 0 25
  refine yp_ ?_ 1 26
  refine yp_ ?_ 2 27
  refine yt4_ ?_ 3 28
  refine yt4_ ?_ 4 29
  refine yp_ ?_ 5 30
  refine yp_ ?_ 6 31
  refine yp_ ?_ 7 32
  refine yt4_ ?_ 8 33
  refine yt4_ ?_ 11 36
  refine yo_ 9 (some 34) (fun K hK => ?_)
  refine yg_ Try.func26 #[.agg #[.int .i64 a0_0, .int .u64 a0_1]] ?_
  with_reducible refine (wide_Put.calls k a0_0 a0_1 t215 _ A30.out).mono ?_
  rintro e w34 ⟨v216, rfl, ho0, hb⟩
  refine ⟨_, rfl, ?_⟩
  have HO217 := Aside0.mk (Kd.R_lower (Kd.R_new' ho0 (Kd.R_lt (zr_ HO206.out))) (below_size (zw3_ HB GE202 GE210 GE214)))
  replace HO206 := ze_ HO206 ho0 hb
  replace BK202 := za_ BK202 hb
  replace BK210 := za_ BK210 hb
  replace BK214 := za_ BK214 hb
  replace HB := Aside0.mk (below_step (zw3_ HB GE202 GE210 GE214) hb)
  (try clear hb)
  (try clear hb2)
  (try clear hk)
  (try clear hi)
  (try clear ho0)
  refine hK.out _ _ ⟨zx_ BK210 0, zx_ BK210 1, zx_ BK202 0, zx_ BK202 1⟩ (fun hHeld => ?_)
  clear hK K
  refine zq_ (some 34) (h := ?_)
  refine join_ (σ := Value) 2 #[true, true, true, true, true, true, true, true, true, true, true, true, true, true, false, false] (fun s_ => [(35, .string (strOfNums t215)), (37, s_), (38, .string (strOfNums t218))]) (fun s_ w' => (w'.cell? ⟨gb210, 0, none⟩ = some (.int .i64 t207) ∧ w'.cell? ⟨gb210, 1, none⟩ = some (.int .u64 t208) ∧ w'.cell? ⟨gb202, 0, none⟩ = some (.int .i64 a0_0) ∧ w'.cell? ⟨gb202, 1, none⟩ = some (.int .u64 a0_1)) ∧ (Kd.R (Kd.int .u8) 5 w' w.heap.size (fun k_ => some k_ ≠ (v216 : Value).ownBlock ∧ some k_ ≠ (s_ : Value).ownBlock) (.slice Ao16 t204.length co16) t204) ∧ (Kd.R (Kd.int .u8) 5 w' w.heap.size (fun k_ => some k_ ≠ (.slice Ao16 t204.length co16 : Value).ownBlock ∧ some k_ ≠ (s_ : Value).ownBlock) v216 t215) ∧ (Kd.R (Kd.int .u8) 5 w' w.heap.size (fun k_ => some k_ ≠ (.slice Ao16 t204.length co16 : Value).ownBlock ∧ some k_ ≠ (v216 : Value).ownBlock) s_ t218) ∧ (w'.heap[gb202]? = some (.cells #[.int .i64 a0_0, .int .u64 a0_1] 25 (0, 0))) ∧ (w'.heap[gb210]? = some (.cells #[.int .i64 t207, .int .u64 t208] 25 (0, 0))) ∧ (w'.heap[gb214]? = some (.cells #[.int .i64 t211, .int .u64 t212] 25 (0, 0))) ∧ (Below w.heap.size w w')) ?_ ?_
  rotate_left
  ·intro hCont
   refine two_ (i := 10) (j := 12) (Ni := some 35) (Nj := some 37) #[true, true, true, true, true, true, true, true, true, true, true, true, false, false, false, false] #[true, true, true, true, true, true, true, true, true, true, false, true, true, false, false, false] rfl rfl rfl rfl (two_of HT_.out (by kernel_rfl)) (by decide) (by decide) (fun K hK => ?_) (fun K hK => ?_)
   ·skip
    have hcv35 := own_string (P := Try.prog) Try.underlying47 Try.underlying5 Try.underlying9 (Kd.own_of_R HO217.out)
    refine value_ (w1 := ?_) (v := ?_) (by rfl) rfl ?_ ?_
    rotate_left 2
    ·go_simp
     constructor
     ·rfl
     rfl
    clear hcv35
    refine hK.out _ _ ⟨zx_ BK210 0, zx_ BK210 1, zx_ BK202 0, zx_ BK202 1⟩ (fun hHeld => ?_)
    clear hK K
    refine zq_ (some 35) (h := ?_)
    refine yo_ 12 (some 37) (fun K hK => ?_)
    refine yg_ Try.func27 #[.agg #[.int .i64 a0_0, .int .u64 a0_1]] ?_
    with_reducible refine (carouselref1_WPut.calls a0_0 a0_1 t218 _ A31.out).mono ?_
    rintro e w36 ⟨v219, rfl, ho0, hb⟩
    refine ⟨_, rfl, ?_⟩
    have HO220 := Aside0.mk (Kd.R_lower (Kd.R_new' (Kd.R_new' ho0 (Kd.R_lt (zr_ HO206.out))) (Kd.R_lt (zr_ HO217.out))) (below_size (zw3_ HB GE202 GE210 GE214)))
    replace HO206 := ze_ HO206 ho0 hb
    replace HO217 := ze_ HO217 ho0 hb
    replace BK202 := za_ BK202 hb
    replace BK210 := za_ BK210 hb
    replace BK214 := za_ BK214 hb
    replace HB := Aside0.mk (below_step (zw3_ HB GE202 GE210 GE214) hb)
    (try clear hb)
    (try clear hb2)
    (try clear hk)
    (try clear hi)
    (try clear ho0)
    refine hK.out _ _ ⟨zx_ BK210 0, zx_ BK210 1, zx_ BK202 0, zx_ BK202 1⟩ (fun hHeld => ?_)
    clear hK K
    refine zq_ (some 37) (h := ?_)
    refine yo_ 13 (some 38) (fun K hK => ?_)
    have hcv37 := own_string (P := Try.prog) Try.underlying47 Try.underlying5 Try.underlying9 (Kd.own_of_R HO220.out)
    refine value_ (w1 := ?_) (v := ?_) (by rfl) rfl ?_ ?_
    rotate_left 2
    ·go_simp
     constructor
     ·rfl
     rfl
    clear hcv37
    refine hK.out _ _ ⟨zx_ BK210 0, zx_ BK210 1, zx_ BK202 0, zx_ BK202 1⟩ (fun hHeld => ?_)
    clear hK K
    refine zq_ (some 38) (h := ?_)
    exact zj_ (hCont (v219) _ ⟨hHeld, (zr_ (Kd.R_mono HO206.out (fun _ hk => ⟨hk.1.2, hk.2⟩))), (zr_ (Kd.R_mono HO217.out (fun _ hk => ⟨hk.1.2, hk.2⟩))), (zr_ (Kd.R_mono HO220.out (fun _ hk => ⟨hk.1.2, hk.2⟩))), (zb_ BK202), (zb_ BK210), (zb_ BK214), (zw3_ HB GE202 GE210 GE214)⟩)
   skip
   refine yg_ Try.func27 #[.agg #[.int .i64 a0_0, .int .u64 a0_1]] ?_
   with_reducible refine (carouselref1_WPut.calls a0_0 a0_1 t218 _ A31.out).mono ?_
   rintro e w35 ⟨v219, rfl, ho0, hb⟩
   refine ⟨_, rfl, ?_⟩
   have HO220 := Aside0.mk (Kd.R_lower (Kd.R_new' (Kd.R_new' ho0 (Kd.R_lt (zr_ HO206.out))) (Kd.R_lt (zr_ HO217.out))) (below_size (zw3_ HB GE202 GE210 GE214)))
   replace HO206 := ze_ HO206 ho0 hb
   replace HO217 := ze_ HO217 ho0 hb
   replace BK202 := za_ BK202 hb
   replace BK210 := za_ BK210 hb
   replace BK214 := za_ BK214 hb
   replace HB := Aside0.mk (below_step (zw3_ HB GE202 GE210 GE214) hb)
   (try clear hb)
   (try clear hb2)
   (try clear hk)
   (try clear hi)
   (try clear ho0)
   refine hK.out _ _ ⟨zx_ BK210 0, zx_ BK210 1, zx_ BK202 0, zx_ BK202 1⟩ (fun hHeld => ?_)
   clear hK K
   refine zq_ (some 37) (h := ?_)
   refine two_ (i := 10) (j := 13) (Ni := some 35) (Nj := some 38) #[true, true, true, true, true, true, true, true, true, true, true, true, true, false, false, false] #[true, true, true, true, true, true, true, true, true, true, false, true, true, true, false, false] rfl rfl rfl rfl (two_of HT_.out (by kernel_rfl)) (by decide) (by decide) (fun K hK => ?_) (fun K hK => ?_)
   ·skip
    have hcv36 := own_string (P := Try.prog) Try.underlying47 Try.underlying5 Try.underlying9 (Kd.own_of_R HO217.out)
    refine value_ (w1 := ?_) (v := ?_) (by rfl) rfl ?_ ?_
    rotate_left 2
    ·go_simp
     constructor
     ·rfl
     rfl
    clear hcv36
    refine hK.out _ _ ⟨zx_ BK210 0, zx_ BK210 1, zx_ BK202 0, zx_ BK202 1⟩ (fun hHeld => ?_)
    clear hK K
    refine zq_ (some 35) (h := ?_)
    refine yo_ 13 (some 38) (fun K hK => ?_)
    have hcv37 := own_string (P := Try.prog) Try.underlying47 Try.underlying5 Try.underlying9 (Kd.own_of_R HO220.out)
    refine value_ (w1 := ?_) (v := ?_) (by rfl) rfl ?_ ?_
    rotate_left 2
    ·go_simp
     constructor
     ·rfl
     rfl
    clear hcv37
    refine hK.out _ _ ⟨zx_ BK210 0, zx_ BK210 1, zx_ BK202 0, zx_ BK202 1⟩ (fun hHeld => ?_)
    clear hK K
    refine zq_ (some 38) (h := ?_)
    exact zj_ (hCont (v219) _ ⟨hHeld, (zr_ (Kd.R_mono HO206.out (fun _ hk => ⟨hk.1.2, hk.2⟩))), (zr_ (Kd.R_mono HO217.out (fun _ hk => ⟨hk.1.2, hk.2⟩))), (zr_ (Kd.R_mono HO220.out (fun _ hk => ⟨hk.1.2, hk.2⟩))), (zb_ BK202), (zb_ BK210), (zb_ BK214), (zw3_ HB GE202 GE210 GE214)⟩)
   skip
   have hcv36 := own_string (P := Try.prog) Try.underlying47 Try.underlying5 Try.underlying9 (Kd.own_of_R HO220.out)
   refine value_ (w1 := ?_) (v := ?_) (by rfl) rfl ?_ ?_
   rotate_left 2
   ·go_simp
    constructor
    ·rfl
    rfl
   clear hcv36
   refine hK.out _ _ ⟨zx_ BK210 0, zx_ BK210 1, zx_ BK202 0, zx_ BK202 1⟩ (fun hHeld => ?_)
   clear hK K
   refine zq_ (some 38) (h := ?_)
   refine yo_ 10 (some 35) (fun K hK => ?_)
   have hcv37 := own_string (P := Try.prog) Try.underlying47 Try.underlying5 Try.underlying9 (Kd.own_of_R HO217.out)
   refine value_ (w1 := ?_) (v := ?_) (by rfl) rfl ?_ ?_
   rotate_left 2
   ·go_simp
    constructor
    ·rfl
    rfl
   clear hcv37
   refine hK.out _ _ ⟨zx_ BK210 0, zx_ BK210 1, zx_ BK202 0, zx_ BK202 1⟩ (fun hHeld => ?_)
   clear hK K
   refine zq_ (some 35) (h := ?_)
   exact zj_ (hCont (v219) _ ⟨hHeld, (zr_ (Kd.R_mono HO206.out (fun _ hk => ⟨hk.1.2, hk.2⟩))), (zr_ (Kd.R_mono HO217.out (fun _ hk => ⟨hk.1.2, hk.2⟩))), (zr_ (Kd.R_mono HO220.out (fun _ hk => ⟨hk.1.2, hk.2⟩))), (zb_ BK202), (zb_ BK210), (zb_ BK214), (zw3_ HB GE202 GE210 GE214)⟩)
  rintro v219 w38 ⟨hS_, h0_, h1_, h2_, h3_, h4_, h5_, h6_⟩
  (try dsimp only at h0_ h1_ h2_ h3_ h4_ h5_ h6_)
  clear HO206 BK202 BK210 BK214 HB
  have HO206 := Aside0.mk h0_
  have HO217 := Aside0.mk h1_
  have HO220 := Aside0.mk h2_
  have BK202 := Aside0.mk h3_
  have BK210 := Aside0.mk h4_
  have BK214 := Aside0.mk h5_
  have HB := Aside0.mk h6_
  clear h0_ h1_ h2_ h3_ h4_ h5_ h6_
  have hHeld : w38.cell? ⟨gb210, 0, none⟩ = some (.int .i64 t207) ∧ w38.cell? ⟨gb210, 1, none⟩ = some (.int .u64 t208) ∧ w38.cell? ⟨gb202, 0, none⟩ = some (.int .i64 a0_0) ∧ w38.cell? ⟨gb202, 1, none⟩ = some (.int .u64 a0_1) := hS_
  refine zi_ (h := ?_)
  refine yp_ ?_ 14 39
  refine yp_ ?_ 15 40
  refine done_ (done_of HT_.out (by kernel_rfl)) ?_
  try go_wp2
  go_meet
  case rel => exact ⟨_, (((strOfNums t215).toList != (strOfNums t218).toList)), z1_, H', ⟨by first | omega | exact Nat.le_refl _⟩, ⟨zb_ BK202⟩, ⟨zb_ BK210⟩, ⟨zb_ BK214⟩, ⟨zw3_ HB GE202 GE210 GE214⟩⟩
 case rest =>
  clear HC11
  try clear c2
  try clear p2
  try clear hcv3
  try clear c26
  try clear c26b0
  try clear c26b1
  try clear c27
  try clear c27b0
  try clear hcv35
  try clear hcv36
  try clear hcv37
  obtain ⟨kq, x40_10, rfl, HA, HJ10, BK202, BK210, BK214, HB⟩ := hcut
  cases kq with
  | zero => exact absurd HA.out (by simp [carousellaw2_WideBack.j0])
  | succ kj10 =>
   have H := HA.out
   clear HA
   simp only [carousellaw2_WideBack.j0] at H
   by_cases c41 : x40_10 = true
   ·subst c41
    have H1 : (none) = some r := by rw [if_pos rfl] at H; exact H
    clear H
    have H := H1
    clear H1
    exact absurd H (by simp)
   replace c41 := Bool.eq_false_iff.mpr c41
   subst c41
   have H1 := H
   rw [if_neg (show ¬ (false = true) by decide)] at H1
   clear H
   have H := H1
   clear H1
   by_cases c42 : (l1.length : Int) = 16
   rotate_left
   ·rw [if_neg c42] at H
    have c42b0 : ((l1.length : Int) == 16) = false := beq_eq_false_iff_ne.mpr c42
    have c42b1 : ((l1.length : Int) != 16) = true := bne_iff_ne.mpr c42
    by_cases c50 : t213 = 3
    rotate_left
    ·rw [if_neg c50] at H
     exact absurd H (by simp)
    rw [if_pos c50] at H
    have c50b0 : (t213 == 3) = true := beq_iff_eq.mpr c50
    have c50b1 : (t213 != 3) = false := bne_eq_false_iff_eq.mpr c50
    clear c50
    obtain rfl := Option.some.inj H
    have hnb51 := NB214_202.out
    have hnc51 := NB202_214.out
    have hnb52 := NB214_210.out
    have hnc52 := NB210_214.out
    have hcz53_0 := zx_ (v := .int .i64 t211) BK214 0
    have hcz53_1 := zx_ (v := .int .u64 t212) BK214 1
    have hfz53_0 := blk_frozen BK214.out 0
    have hfz53_1 := blk_frozen BK214.out 1
    go_wp2
    go_ret
    exact ⟨z0_, zw3_ HB GE202 GE210 GE214⟩
   rw [if_pos c42] at H
   have c42b0 : ((l1.length : Int) == 16) = true := beq_iff_eq.mpr c42
   have c42b1 : ((l1.length : Int) != 16) = false := bne_eq_false_iff_eq.mpr c42
   clear c42
   by_cases c43 : t213 = 0
   rotate_left
   ·rw [if_neg c43] at H
    have c43b0 : (t213 == 0) = false := beq_eq_false_iff_ne.mpr c43
    have c43b1 : (t213 != 0) = true := bne_iff_ne.mpr c43
    exact absurd H (by simp)
   rw [if_pos c43] at H
   have c43b0 : (t213 == 0) = true := beq_iff_eq.mpr c43
   have c43b1 : (t213 != 0) = false := bne_eq_false_iff_eq.mpr c43
   clear c43
   replace H := Option.bind_eq_some_iff.mp H
   obtain ⟨t221, A440, H⟩ := H
   replace H : (some ((strOfNums t221).toList == (strOfNums l1).toList)) = some r := H
   have A44 := Aside0.mk A440
   clear A440
   obtain rfl := Option.some.inj H
   try go_wp2
   replace BK202 := Aside0.mk (blk_drew BK202.out)
   replace BK210 := Aside0.mk (blk_drew BK210.out)
   replace BK214 := Aside0.mk (blk_drew BK214.out)
   replace HB := Aside0.mk (below_drew1 HB.out)
   refine start_ (n := 11) (S := fun w' => w'.cell? ⟨gb214, 0, none⟩ = some (.int .i64 t211) ∧ w'.cell? ⟨gb214, 1, none⟩ = some (.int .u64 t212) ∧ Kd.C (Kd.int .u8) w' A1 l1.length l1) (ds := []) #[false, false, false, false, false, false, false, false, false, false, false] (by kernel_rfl) rfl rfl ⟨(blk_cell BK214.out 0).trans rfl, (blk_cell BK214.out 1).trans rfl, zk_ (Kd.C_below HR1.out HB.out)⟩ (fun hHeld => ?_); refine with_tabW carousellaw2_WideBack.tab11 carousellaw2_WideBack.bits11 (fun HT_ HW_ => ?_)
   generalize wc.drew = w45 at BK202 BK210 BK214 HB hHeld ⊢
   refine yp_ ?_ 0 51
   refine yp_ ?_ 1 52
   refine yp_ ?_ 2 53
   refine yp_ ?_ 6 57
   refine yt3_ ?_ 7 58 (hr := by rintro w' ⟨s0, s1, s2⟩; have hcvs_ := Kd.C_string (P := Try.prog) (A := A1) (c := c1) Try.underlying47 Try.underlying5 Try.underlying9 s2; go_simp; with_reducible rfl)
   refine yt3_ ?_ 3 54
   refine yo_ 4 (some 55) (fun K hK => ?_)
   refine yg_ Try.func26 #[.agg #[.int .i64 t211, .int .u64 t212]] ?_
   with_reducible refine (wide_Put.calls kj10 t211 t212 t221 _ A44.out).mono ?_
   rintro e w46 ⟨v222, rfl, ho0, hb⟩
   refine ⟨_, rfl, ?_⟩
   have HO223 := Aside0.mk (Kd.R_lower ho0 (below_size (zw3_ HB GE202 GE210 GE214)))
   replace BK202 := za_ BK202 hb
   replace BK210 := za_ BK210 hb
   replace BK214 := za_ BK214 hb
   replace HB := Aside0.mk (below_step (zw3_ HB GE202 GE210 GE214) hb)
   (try clear hb)
   (try clear hb2)
   (try clear hk)
   (try clear hi)
   (try clear ho0)
   have hcv48 := Kd.C_string (P := Try.prog) (A := A1) (c := c1) Try.underlying47 Try.underlying5 Try.underlying9 (Kd.C_below HR1.out HB.out)
   refine hK.out _ _ ⟨zx_ BK214 0, zx_ BK214 1, zk_ (Kd.C_below HR1.out HB.out)⟩ (fun hHeld => ?_)
   clear hK K
   refine zq_ (some 55) (h := ?_)
   refine yo_ 5 (some 56) (fun K hK => ?_)
   have hcv47 := own_string (P := Try.prog) Try.underlying47 Try.underlying5 Try.underlying9 (Kd.own_of_R HO223.out)
   refine value_ (w1 := ?_) (v := ?_) (by rfl) rfl ?_ ?_
   rotate_left 2
   ·go_simp
    constructor
    ·rfl
    rfl
   clear hcv47
   refine hK.out _ _ ⟨zx_ BK214 0, zx_ BK214 1, zk_ (Kd.C_below HR1.out HB.out)⟩ (fun hHeld => ?_)
   clear hK K
   refine zq_ (some 56) (h := ?_)
   refine yp_ ?_ 8 59
   refine yp_ ?_ 9 60
   refine yp_ ?_ 10 4
   refine done_ (done_of HT_.out (by kernel_rfl)) ?_
   try go_wp2
   go_ret
   exact ⟨z0_, zw3_ HB GE202 GE210 GE214⟩

/-- THE ONE PURE STATEMENT of carousellaw2_WideBack. -/
def carousellaw2_WideBack.Pure : Prop := ∀ (a0_0 : Int) (a0_1 : Int) (l1 : List Int), (Lit.int .i64 a0_0).wf = true → (Lit.int .u64 a0_1).wf = true → l1.length ≤ maxLen → (∀ x ∈ l1, (Lit.int .u8 x).wf = true) → ∃ k, carousellaw2_WideBack.f k a0_0 a0_1 l1 = some true

end Go.Proofs.Ytalghnbolnimiaa.PWideBack
