/- The functions that the law TensTurns reaches, as Lean functions, and that each call of the Go function does what its Lean function says, wherever that one answers. Written by a program of mine over the print of the kit; Lean checks it. -/
import Derived.Test.YtbdhabpplidgfaaPTensTurnsx0
import Derived.Test.YtbdhabpplidgfaaPTensTurnsx5
import Derived.Test.YtbdhabpplidgfaaPTensTurnsx11
import Derived.Test.YtbdhabpplidgfaaPTensTurnsx17
import Derived.Test.YtbdhabpplidgfaaPTensTurnsx18
import Derived.Test.YtbdhabpplidgfaaPTensTurnsx19
namespace Go.Proofs.Ytbdhabpplidgfaa.PTensTurns
open Go.RowKit Go.Proofs.YtbdhabpplidgfaaW.PrintWords Go.Proofs.YtbdhabpplidgfaaW.PrintLast Go.Proofs.YtbdhabpplidgfaaW.PrintMore
attribute [local go_sem] max2_int min2_int max_two min_two max_three min_three max_four min_four   -- for this text's walks alone
set_option linter.unusedVariables false
set_option linter.unusedSimpArgs false

/-! ### carouselref5_Fold: function 32 -/
mutual
def carouselref5_Fold.j0 : Nat → List Int → Bool → List Int → List Int → Option (List Int × List Int × Int)
 | 0, _, _, _, _ => none
 | k + 1, x1, x19, x487000, x487001 => if x19 = true then (some (([] : List Int), ([] : List Int), 1)) else ((carouselref5_Join.f k x1 x487000).bind fun bt490 => (if bt490.2 = 0 then ((carouselref5_Same.f k bt490.1 x487000).bind fun t494 => (carouselref5_Fold.j1 k x1 (!t494) x487000 x487001)) else (carouselref5_Fold.j1 k x1 true x487000 x487001)))
def carouselref5_Fold.j1 : Nat → List Int → Bool → List Int → List Int → Option (List Int × List Int × Int)
 | 0, _, _, _, _ => none
 | k + 1, x1, x36, x487000, x487001 => if x36 = true then (some (([] : List Int), ([] : List Int), 4)) else ((carouselref5_New.f k x1 0).bind fun bt495 => (carouselref5_Fold.l0 k x1 0 x487000 x487001 bt495.1 bt495.2))
def carouselref5_Fold.l0 : Nat → List Int → Int → List Int → List Int → List Int → List Int → Option (List Int × List Int × Int)
 | 0, _, _, _, _, _, _ => none
 | k + 1, x1, x9, x487000, x487001, x502000, x502001 => if x9 < (x487001.length : Int) then ((carouselref5_From.f k x1 x487000 x9).bind fun bt502 => (if 0 ≤ bt502.1 then (if bt502.1 < (x502001.length : Int) then (if 0 ≤ x9 then ((carouselref1_Add.f k (rd x502001 bt502.1) (rd x487001 x9)).bind fun t506 => (carouselref5_Fold.l0 k x1 (wrap64 (x9 + 1)) x487000 x487001 x502000 (x502001.set (bt502.1 : Int).toNat t506))) else (none)) else (none)) else (none))) else (some (x502000, x502001, 0))
end
def carouselref5_Fold.f (k : Nat) (l0_0 : List Int) (l0_1 : List Int) (l1 : List Int) : Option (List Int × List Int × Int) := (carouselref5_Is.f k l0_0 l0_1).bind fun t488 => (if t488 = true then ((carouselref5_Good.f k l1).bind fun t489 => (carouselref5_Fold.j0 k l1 (!t489) l0_0 l0_1)) else (carouselref5_Fold.j0 k l1 true l0_0 l0_1))
theorem carouselref5_Fold.mono_l : ∀ k, (∀ y0 y1 y2 y3, LeO (carouselref5_Fold.j0 k y0 y1 y2 y3) (carouselref5_Fold.j0 (k + 1) y0 y1 y2 y3)) ∧ (∀ y0 y1 y2 y3, LeO (carouselref5_Fold.j1 k y0 y1 y2 y3) (carouselref5_Fold.j1 (k + 1) y0 y1 y2 y3)) ∧ (∀ y0 y1 y2 y3 y4 y5, LeO (carouselref5_Fold.l0 k y0 y1 y2 y3 y4 y5) (carouselref5_Fold.l0 (k + 1) y0 y1 y2 y3 y4 y5))
 | 0 => ⟨fun _ _ _ _ r h => by simp [carouselref5_Fold.j0] at h, fun _ _ _ _ r h => by simp [carouselref5_Fold.j1] at h, fun _ _ _ _ _ _ r h => by simp [carouselref5_Fold.l0] at h⟩
 | k + 1 => by
  obtain ⟨ih0, ih1, ih2⟩ := carouselref5_Fold.mono_l k
  refine ⟨?_, ?_, ?_⟩
  ·intro y0 y1 y2 y3
   unfold carouselref5_Fold.j0
   repeat' first
   | (with_reducible exact ih0 _ _ _ _)
   | (with_reducible exact ih1 _ _ _ _)
   | (with_reducible exact ih2 _ _ _ _ _ _)
   | (with_reducible exact carouselref5_Join.mono _ _ _)
   | (with_reducible exact carouselref5_Same.mono _ _ _)
   | (with_reducible exact LeO.refl _)
   | (with_reducible exact LeO.none _)
   | (with_reducible refine LeO.ite ?_ ?_)
   | (with_reducible refine LeO.bind ?_ (fun _ => ?_))
   | exact ih0 _ _ _ _
   | exact ih1 _ _ _ _
   | exact ih2 _ _ _ _ _ _
   | exact carouselref5_Join.mono _ _ _
   | exact carouselref5_Same.mono _ _ _
   | exact LeO.none _
   | refine LeO.ite ?_ ?_
   | refine LeO.bind ?_ (fun _ => ?_)
  ·intro y0 y1 y2 y3
   unfold carouselref5_Fold.j1
   repeat' first
   | (with_reducible exact ih0 _ _ _ _)
   | (with_reducible exact ih1 _ _ _ _)
   | (with_reducible exact ih2 _ _ _ _ _ _)
   | (with_reducible exact carouselref5_New.mono _ _ _)
   | (with_reducible exact LeO.refl _)
   | (with_reducible exact LeO.none _)
   | (with_reducible refine LeO.ite ?_ ?_)
   | (with_reducible refine LeO.bind ?_ (fun _ => ?_))
   | exact ih0 _ _ _ _
   | exact ih1 _ _ _ _
   | exact ih2 _ _ _ _ _ _
   | exact carouselref5_New.mono _ _ _
   | exact LeO.none _
   | refine LeO.ite ?_ ?_
   | refine LeO.bind ?_ (fun _ => ?_)
  ·intro y0 y1 y2 y3 y4 y5
   unfold carouselref5_Fold.l0
   repeat' first
   | (with_reducible exact ih0 _ _ _ _)
   | (with_reducible exact ih1 _ _ _ _)
   | (with_reducible exact ih2 _ _ _ _ _ _)
   | (with_reducible exact carouselref1_Add.mono _ _ _)
   | (with_reducible exact carouselref5_From.mono _ _ _ _)
   | (with_reducible exact LeO.refl _)
   | (with_reducible exact LeO.none _)
   | (with_reducible refine LeO.ite ?_ ?_)
   | (with_reducible refine LeO.bind ?_ (fun _ => ?_))
   | exact ih0 _ _ _ _
   | exact ih1 _ _ _ _
   | exact ih2 _ _ _ _ _ _
   | exact carouselref1_Add.mono _ _ _
   | exact carouselref5_From.mono _ _ _ _
   | exact LeO.none _
   | refine LeO.ite ?_ ?_
   | refine LeO.bind ?_ (fun _ => ?_)
theorem carouselref5_Fold.mono : ∀ a0 a1 a2 k, LeO (carouselref5_Fold.f k a0 a1 a2) (carouselref5_Fold.f (k + 1) a0 a1 a2) := by
 intro a0 a1 a2 k
 obtain ⟨ih0, ih1, ih2⟩ := carouselref5_Fold.mono_l k
 unfold carouselref5_Fold.f
 repeat' first
   | (with_reducible exact ih0 _ _ _ _)
   | (with_reducible exact ih1 _ _ _ _)
   | (with_reducible exact ih2 _ _ _ _ _ _)
   | (with_reducible exact carouselref5_Good.mono _ _)
   | (with_reducible exact carouselref5_Is.mono _ _ _)
   | (with_reducible exact LeO.refl _)
   | (with_reducible exact LeO.none _)
   | (with_reducible refine LeO.ite ?_ ?_)
   | (with_reducible refine LeO.bind ?_ (fun _ => ?_))
   | exact ih0 _ _ _ _
   | exact ih1 _ _ _ _
   | exact ih2 _ _ _ _ _ _
   | exact carouselref5_Good.mono _ _
   | exact carouselref5_Is.mono _ _ _
   | exact LeO.none _
   | refine LeO.ite ?_ ?_
   | refine LeO.bind ?_ (fun _ => ?_)
def carouselref5_Fold.T11 : Bool × List (List Nat × List Nat) := (true, [([], []), ([0], [0]), ([], []), ([], []), ([3], [3]), ([], []), ([4, 5], [4, 5]), ([6], [6]), ([], []), ([8], [8]), ([], []), ([9, 10], [9, 10]), ([11], [11]), ([7, 12], [7, 12]), ([1, 2, 0, 1, 2, 3, 4, 5, 6, 7, 8, 9, 10, 11, 12, 13], [1, 2]), ([14, 13, 13, 0, 1, 2, 3, 4, 5, 6, 7, 8, 9, 10, 11, 12, 13], [13, 14])])
def carouselref5_Fold.B11 : List Nat := [0, 1, 0, 0, 8, 0, 56, 120, 0, 256, 0, 1792, 3840, 8184, 16383, 32767]
theorem carouselref5_Fold.tab11 : rtab .any (opsOf Try.f32 11) = carouselref5_Fold.T11 := by kernel_rfl
theorem carouselref5_Fold.bits11 : waitsOk carouselref5_Fold.T11.2 carouselref5_Fold.B11 = true := by kernel_rfl
set_option maxHeartbeats 8000000 in
set_option maxRecDepth 100000 in
theorem carouselref5_Fold.calls (k : Nat) (A0_0 : Option Addr) (c0_0 : Nat) (l0_0 : List Int) (A0_1 : Option Addr) (c0_1 : Nat) (l0_1 : List Int) (A1 : Option Addr) (c1 : Nat) (l1 : List Int) (r1 : List Int) (r2 : List Int) (r3 : Int) (w : World) (hr0_0 : Kd.C (Kd.int .i64) w A0_0 l0_0.length l0_0) (hc0_0 : l0_0.length ≤ c0_0) (hr0_1 : Kd.C (Kd.int .i64) w A0_1 l0_1.length l0_1) (hc0_1 : l0_1.length ≤ c0_1) (hr1 : Kd.C (Kd.int .i64) w A1 l1.length l1) (hc1 : l1.length ≤ c1) (h : carouselref5_Fold.f k l0_0 l0_1 l1 = some (r1, r2, r3)) :
  Calls Try.prog 32 #[.agg #[.slice A0_0 l0_0.length c0_0, .slice A0_1 l0_1.length c0_1], .slice A1 l1.length c1] w fun e w' => ∃ v0_ v1_ : Value, e = .returned (.tuple #[.agg #[v0_, v1_], .int .i64 r3]) ∧ Kd.R (Kd.int .i64) 3 w' w.heap.size (fun _ => True) v0_ r1 ∧ Kd.R (Kd.int .i64) 23 w' w.heap.size (fun _ => True) v1_ r2 ∧ Below w.heap.size w w' := by
 have hu27 := Try.underlying27
 have HR0_0 := Aside0.mk hr0_0
 have HC0_0 := Aside0.mk hc0_0
 clear hr0_0 hc0_0
 have HR0_1 := Aside0.mk hr0_1
 have HC0_1 := Aside0.mk hc0_1
 clear hr0_1 hc0_1
 have HR1 := Aside0.mk hr1
 have HC1 := Aside0.mk hc1
 clear hr1 hc1
 have HB := Aside0.mk (Below.refl w.heap.size w)
 have H : ((carouselref5_Is.f k l0_0 l0_1).bind fun t488 => (if t488 = true then ((carouselref5_Good.f k l1).bind fun t489 => (carouselref5_Fold.j0 k l1 (!t489) l0_0 l0_1)) else (carouselref5_Fold.j0 k l1 true l0_0 l0_1))) = some (r1, r2, r3) := h
 clear h
 have HC3 := Aside0.mk H
 clear H
 go_enter Try.func32, Try.ntmps32
 go_upto_region 1 with (first | ((with_reducible refine gate_dst (N := 2) rfl ?_); refine box_event ?hg (N := 2) ?hd (cs := #[.slice A0_0 l0_0.length c0_0, .slice A0_1 l0_1.length c0_1]) (t := 27) ?hr ?_; (case hd => rfl); (case hg => rfl); (case hr => first | (go_simp; done) | (go_simp; rfl)); intro gb486 hg w4 hbox hb; have BK486 := Aside0.mk (hbox); have GW486 := Aside0.mk (zs_ hg (zw0_ HB)); have GE486 := Aside0.mk (zs_ hg (zw0_ HB)); replace HB := Aside0.mk (below_step (zw0_ HB) hb); clear hb hbox hg) | ((with_reducible refine gate_dst (N := 4) rfl ?_); refine box_event ?hg (N := 4) ?hd (cs := #[.slice none 0 0, .slice none 0 0]) (t := 27) ?hr ?_; (case hd => rfl); (case hg => rfl); (case hr => first | (go_simp; done) | (go_simp; rfl)); intro gb487 hg w5 hbox hb; have BK487 := Aside0.mk (hbox); have GW487 := Aside0.mk (zs_ hg (zw1_ HB GE486)); have GE487 := Aside0.mk (zs_ hg (zw1_ HB GE486)); replace HB := Aside0.mk (below_step (zw1_ HB GE486) hb); have NB486_487 := Aside0.mk (zn_ hg BK486); have NB487_486 := Aside0.mk (zm_ hg BK486); replace BK486 := za_ BK486 hb; clear hb hbox hg))
 (try simp only [Act.put, List.setIfInBounds_toArray, List.set_cons_zero, List.set_cons_succ])
 go_cut [19] (fun v19 wc => ∃ (kq : Nat) (x19_2 : Bool), v19 = .bool x19_2 ∧ Aside0 (carouselref5_Fold.j0 kq l1 x19_2 l0_0 l0_1 = some (r1, r2, r3)) ∧ Aside0 (kq ≤ k) ∧ Aside0 (wc.heap[gb486]? = some (.cells #[(.slice A0_0 l0_0.length c0_0), (.slice A0_1 l0_1.length c0_1)] 27 (0, 0))) ∧ Aside0 (wc.heap[gb487]? = some (.cells #[(.slice none 0 0), (.slice none 0 0)] 27 (0, 0))) ∧ Aside0 (Below w.heap.size w wc))
 case first =>
  have H := HC3.out
  clear HC3
  replace H := Option.bind_eq_some_iff.mp H
  obtain ⟨t488, A60, H⟩ := H
  (try dsimp only at H)
  have A6 := Aside0.mk A60
  clear A60
  by_cases c7 : t488 = true
  rotate_left
  ·replace c7 := Bool.eq_false_iff.mpr c7
   subst c7
   have H1 : (carouselref5_Fold.j0 k l1 true l0_0 l0_1) = some (r1, r2, r3) := by rw [if_neg (show ¬ (false = true) by decide)] at H; exact H
   clear H
   have H := H1
   clear H1
   have H' := Aside0.mk H
   clear H
   have hnb12 := NB486_487.out
   have hnc12 := NB487_486.out
   have hcz13_0 := zx_ (v := .slice A0_0 l0_0.length c0_0) BK486 0
   have hcz13_1 := zx_ (v := .slice A0_1 l0_1.length c0_1) BK486 1
   have hfz13_0 := blk_frozen BK486.out 0
   have hfz13_1 := blk_frozen BK486.out 1
   go_wp2_with (first | ((with_reducible refine gate_callee (f := 18) rfl ?_); refine zg_ (some 13) Try.func18 #[.agg #[.slice A0_0 l0_0.length c0_0, .slice A0_1 l0_1.length c0_1]] (h := ?_); (with_reducible refine (carouselref5_Is.calls k _ _ l0_0 _ _ l0_1 false _ ?side1 ?side2 ?side3 ?side4 A6.out).mono ?_); (case side1 => exact zk_ (Kd.C_below HR0_0.out HB.out)); (case side2 => exact HC0_0.out); (case side3 => exact zk_ (Kd.C_below HR0_1.out HB.out)); (case side4 => exact HC0_1.out); rintro e w14 ⟨rfl, hb⟩; refine ⟨_, rfl, ?_⟩; replace BK486 := za_ BK486 hb; replace BK487 := za_ BK487 hb; replace HB := Aside0.mk (below_step (zw2_ HB GE486 GE487) hb); (try clear hb)))
   go_meet
   case rel => exact ⟨_, (true), z1_, H', ⟨by first | omega | exact Nat.le_refl _⟩, ⟨zb_ BK486⟩, ⟨zb_ BK487⟩, ⟨zw2_ HB GE486 GE487⟩⟩
  subst c7
  have H1 := H
  rw [if_pos rfl] at H1
  clear H
  have H := H1
  clear H1
  replace H := Option.bind_eq_some_iff.mp H
  obtain ⟨t489, A80, H⟩ := H
  replace H : (carouselref5_Fold.j0 k l1 (!t489) l0_0 l0_1) = some (r1, r2, r3) := H
  have A8 := Aside0.mk A80
  clear A80
  have H' := Aside0.mk H
  clear H
  have hnb9 := NB486_487.out
  have hnc9 := NB487_486.out
  have hcz10_0 := zx_ (v := .slice A0_0 l0_0.length c0_0) BK486 0
  have hcz10_1 := zx_ (v := .slice A0_1 l0_1.length c0_1) BK486 1
  have hfz10_0 := blk_frozen BK486.out 0
  have hfz10_1 := blk_frozen BK486.out 1
  go_wp2_with (first | ((with_reducible refine gate_callee (f := 18) rfl ?_); refine zg_ (some 13) Try.func18 #[.agg #[.slice A0_0 l0_0.length c0_0, .slice A0_1 l0_1.length c0_1]] (h := ?_); (with_reducible refine (carouselref5_Is.calls k _ _ l0_0 _ _ l0_1 true _ ?side1 ?side2 ?side3 ?side4 A6.out).mono ?_); (case side1 => exact zk_ (Kd.C_below HR0_0.out HB.out)); (case side2 => exact HC0_0.out); (case side3 => exact zk_ (Kd.C_below HR0_1.out HB.out)); (case side4 => exact HC0_1.out); rintro e w11 ⟨rfl, hb⟩; refine ⟨_, rfl, ?_⟩; replace BK486 := za_ BK486 hb; replace BK487 := za_ BK487 hb; replace HB := Aside0.mk (below_step (zw2_ HB GE486 GE487) hb); (try clear hb)) | (go_at_call 13; (with_reducible refine (carouselref5_Good.calls k _ _ l1 t489 _ ?side1 ?side2 A8.out).mono ?_); (case side1 => exact zk_ (Kd.C_below HR1.out HB.out)); (case side2 => exact HC1.out); rintro e w' ⟨rfl, ⟨nd, rfl⟩⟩))
  go_meet
  case rel => exact ⟨_, (!t489), z1_, H', ⟨by first | omega | exact Nat.le_refl _⟩, ⟨zb_ BK486⟩, ⟨zb_ BK487⟩, ⟨zw2_ HB GE486 GE487⟩⟩
 case rest =>
  clear HC3
  try clear c1
  try clear p2
  try clear c3
  try clear c7
  try clear c9
  try clear c12
  try clear hcz10_0
  try clear hcz10_1
  try clear hcz13_0
  try clear hcz13_1
  try clear hfz10_0
  try clear hfz10_1
  try clear hfz13_0
  try clear hfz13_1
  obtain ⟨kq, x19_2, rfl, HA, HJ2, BK486, BK487, HB⟩ := hcut
  cases kq with
  | zero => exact absurd HA.out (by simp [carouselref5_Fold.j0])
  | succ kj2 =>
   have H := HA.out
   clear HA
   simp only [carouselref5_Fold.j0] at H
   by_cases c15 : x19_2 = true
   ·subst c15
    have H1 : (some (([] : List Int), ([] : List Int), 1)) = some (r1, r2, r3) := by rw [if_pos rfl] at H; exact H
    clear H
    have H := H1
    clear H1
    simp only [Option.some.injEq, Prod.mk.injEq] at H
    obtain ⟨rfl, rfl, rfl⟩ := H
    have hnb16 := NB487_486.out
    have hnc16 := NB486_487.out
    have hcz17_0 := zx_ (v := .slice none 0 0) BK487 0
    have hcz17_1 := zx_ (v := .slice none 0 0) BK487 1
    have hfz17_0 := blk_frozen BK487.out 0
    have hfz17_1 := blk_frozen BK487.out 1
    go_wp2
    refine bodyPost_ret (results_ct rfl _ _ gb487 27 #[.slice none 0 0, .slice none 0 0] (0, 0) _ rfl (zo2_ BK487) Try.underlying27 rfl (by kernel_rfl)) rfl ?_
    exact ⟨_, _, z0_, z2_, z2_, zw2_ HB GE486 GE487⟩
   replace c15 := Bool.eq_false_iff.mpr c15
   subst c15
   have H1 := H
   rw [if_neg (show ¬ (false = true) by decide)] at H1
   clear H
   have H := H1
   clear H1
   replace H := Option.bind_eq_some_iff.mp H
   obtain ⟨⟨t490, t491⟩, A180, H⟩ := H
   (try dsimp only at H)
   have A18 := Aside0.mk A180
   clear A180
   have HC19 := Aside0.mk H
   clear H
   have hnb20 := NB486_487.out
   have hnc20 := NB487_486.out
   have hcz21_0 := zx_ (v := .slice A0_0 l0_0.length c0_0) BK486 0
   have hcz21_1 := zx_ (v := .slice A0_1 l0_1.length c0_1) BK486 1
   have hfz21_0 := blk_frozen BK486.out 0
   have hfz21_1 := blk_frozen BK486.out 1
   go_upto_region 4 with (first | ((with_reducible refine gate_callee (f := 46) rfl ?_); refine zg_ (some 25) Try.func46 #[.slice A1 l1.length c1, .slice A0_0 l0_0.length c0_0] (h := ?_); (with_reducible refine (carouselref5_Join.calls kj2 _ _ l1 _ _ l0_0 t490 t491 _ ?side1 ?side2 ?side3 ?side4 A18.out).mono ?_); (case side1 => exact zk_ (Kd.C_below HR1.out HB.out)); (case side2 => exact HC1.out); (case side3 => exact zk_ (Kd.C_below HR0_0.out HB.out)); (case side4 => exact HC0_0.out); rintro e w22 ⟨v492, rfl, ho0, hb⟩; refine ⟨_, rfl, ?_⟩; have HO493 := Aside0.mk (Kd.R_lower ho0 (below_size (zw2_ HB GE486 GE487))); replace BK486 := za_ BK486 hb; replace BK487 := za_ BK487 hb; replace HB := Aside0.mk (below_step (zw2_ HB GE486 GE487) hb); (try clear hb); (try clear ho0)))
   (try simp only [Act.put, List.setIfInBounds_toArray, List.set_cons_zero, List.set_cons_succ])
   go_cut [36] (fun v36 wc => ∃ (kq : Nat) (x36_18 : Bool), v36 = .bool x36_18 ∧ Aside0 (carouselref5_Fold.j1 kq l1 x36_18 l0_0 l0_1 = some (r1, r2, r3)) ∧ Aside0 (kq ≤ kj2) ∧ Aside0 (wc.heap[gb486]? = some (.cells #[(.slice A0_0 l0_0.length c0_0), (.slice A0_1 l0_1.length c0_1)] 27 (0, 0))) ∧ Aside0 (wc.heap[gb487]? = some (.cells #[(.slice none 0 0), (.slice none 0 0)] 27 (0, 0))) ∧ Aside0 (Below w.heap.size w wc))
   case first =>
    have H := HC19.out
    clear HC19
    by_cases c23 : t491 = 0
    rotate_left
    ·rw [if_neg c23] at H
     have c23b0 : (t491 == 0) = false := beq_eq_false_iff_ne.mpr c23
     have c23b1 : (t491 != 0) = true := bne_iff_ne.mpr c23
     (first | rw [c23b0] | (simp only [i64_w, i32_w]; rw [c23b0]) | skip)
     have H' := Aside0.mk H
     clear H
     go_wp2
     go_meet
     case rel => exact ⟨_, (true), z1_, H', ⟨by have := HJ2.out; first | omega | exact Nat.le_refl _⟩, ⟨zb_ BK486⟩, ⟨zb_ BK487⟩, ⟨zw2_ HB GE486 GE487⟩⟩
    rw [if_pos c23] at H
    have c23b0 : (t491 == 0) = true := beq_iff_eq.mpr c23
    have c23b1 : (t491 != 0) = false := bne_eq_false_iff_eq.mpr c23
    clear c23
    (first | rw [c23b0] | (simp only [i64_w, i32_w]; rw [c23b0]) | skip)
    replace H := Option.bind_eq_some_iff.mp H
    obtain ⟨t494, A240, H⟩ := H
    replace H : (carouselref5_Fold.j1 kj2 l1 (!t494) l0_0 l0_1) = some (r1, r2, r3) := H
    have A24 := Aside0.mk A240
    clear A240
    have H' := Aside0.mk H
    clear H
    have hnb25 := NB486_487.out
    have hnc25 := NB487_486.out
    have hcz26_0 := zx_ (v := .slice A0_0 l0_0.length c0_0) BK486 0
    have hcz26_1 := zx_ (v := .slice A0_1 l0_1.length c0_1) BK486 1
    have hfz26_0 := blk_frozen BK486.out 0
    have hfz26_1 := blk_frozen BK486.out 1
    obtain ⟨Ao27, co27, eo27⟩ := Kd.R_slice HO493.out
    subst eo27
    go_wp2_with (first | (go_at_call 37; (with_reducible refine (carouselref5_Same.calls kj2 _ _ t490 _ _ l0_0 t494 _ ?side1 ?side2 ?side3 ?side4 A24.out).mono ?_); (case side1 => exact zk_ ((Kd.R_reads' HO493.out).2.2)); (case side2 => exact (Kd.R_reads' HO493.out).2.1); (case side3 => exact zk_ (Kd.C_below HR0_0.out HB.out)); (case side4 => exact HC0_0.out); rintro e w' ⟨rfl, ⟨nd, rfl⟩⟩))
    go_meet
    case rel => exact ⟨_, (!t494), z1_, H', ⟨by have := HJ2.out; first | omega | exact Nat.le_refl _⟩, ⟨zb_ BK486⟩, ⟨zb_ BK487⟩, ⟨zw2_ HB GE486 GE487⟩⟩
   case rest =>
    clear HC19
    try clear c1
    try clear c2
    try clear p2
    try clear c3
    try clear c4
    try clear c7
    try clear c9
    try clear c12
    try clear c15
    try clear c16
    try clear c18
    try clear c20
    try clear c23
    try clear c23b0
    try clear c23b1
    try clear c25
    try clear hcz10_0
    try clear hcz10_1
    try clear hcz13_0
    try clear hcz13_1
    try clear hcz17_0
    try clear hcz17_1
    try clear hcz21_0
    try clear hcz21_1
    try clear hcz26_0
    try clear hcz26_1
    try clear hfz10_0
    try clear hfz10_1
    try clear hfz13_0
    try clear hfz13_1
    try clear hfz17_0
    try clear hfz17_1
    try clear hfz21_0
    try clear hfz21_1
    try clear hfz26_0
    try clear hfz26_1
    try clear p2
    obtain ⟨kq, x36_18, rfl, HA, HJ18, BK486, BK487, HB⟩ := hcut
    cases kq with
    | zero => exact absurd HA.out (by simp [carouselref5_Fold.j1])
    | succ kj18 =>
     have H := HA.out
     clear HA
     simp only [carouselref5_Fold.j1] at H
     by_cases c28 : x36_18 = true
     ·subst c28
      have H1 : (some (([] : List Int), ([] : List Int), 4)) = some (r1, r2, r3) := by rw [if_pos rfl] at H; exact H
      clear H
      have H := H1
      clear H1
      simp only [Option.some.injEq, Prod.mk.injEq] at H
      obtain ⟨rfl, rfl, rfl⟩ := H
      have hnb29 := NB487_486.out
      have hnc29 := NB486_487.out
      have hcz30_0 := zx_ (v := .slice none 0 0) BK487 0
      have hcz30_1 := zx_ (v := .slice none 0 0) BK487 1
      have hfz30_0 := blk_frozen BK487.out 0
      have hfz30_1 := blk_frozen BK487.out 1
      go_wp2
      refine bodyPost_ret (results_ct rfl _ _ gb487 27 #[.slice none 0 0, .slice none 0 0] (0, 0) _ rfl (zo2_ BK487) Try.underlying27 rfl (by kernel_rfl)) rfl ?_
      exact ⟨_, _, z0_, z2_, z2_, zw2_ HB GE486 GE487⟩
     replace c28 := Bool.eq_false_iff.mpr c28
     subst c28
     have H1 := H
     rw [if_neg (show ¬ (false = true) by decide)] at H1
     clear H
     have H := H1
     clear H1
     replace H := Option.bind_eq_some_iff.mp H
     obtain ⟨⟨t495, t498⟩, A310, H⟩ := H
     replace H : (carouselref5_Fold.l0 kj18 l1 0 l0_0 l0_1 t495 t498) = some (r1, r2, r3) := H
     have A31 := Aside0.mk A310
     clear A310
     have H' := Aside0.mk H
     clear H
     go_wp2_with (first | ((with_reducible refine gate_callee (f := 15) rfl ?_); refine zg_ (some 39) Try.func15 #[.slice A1 l1.length c1, .int .i64 0] (h := ?_); (with_reducible refine (carouselref5_New.calls kj18 _ _ l1 0 t495 t498 _ ?side1 ?side2 A31.out).mono ?_); (case side1 => exact zk_ (Kd.C_below HR1.out HB.out)); (case side2 => exact HC1.out); rintro e w32 ⟨v496, v499, rfl, ho0, ho1, hb⟩; refine ⟨_, rfl, ?_⟩; have HO497 := Aside0.mk (Kd.R_lower ho0 (below_size (zw2_ HB GE486 GE487))); have HO500 := Aside0.mk (Kd.R_lower ho1 (below_size (zw2_ HB GE486 GE487))); replace BK486 := za_ BK486 hb; replace BK487 := za_ BK487 hb; replace HB := Aside0.mk (below_step (zw2_ HB GE486 GE487) hb); (try clear hb); (try clear ho0); (try clear ho1)) | ((with_reducible refine gate_dst (N := 8) rfl ?_); refine box_event ?hg (N := 8) ?hd (cs := #[.slice none 0 0, .slice none 0 0]) (t := 27) ?hr ?_; (case hd => rfl); (case hg => rfl); (case hr => first | (go_simp; done) | (go_simp; rfl)); intro gb501 hg w33 hbox hb; replace HO497 := zy_ HO497 hb; replace HO500 := zy_ HO500 hb; have BK501 := Aside0.mk (hbox); have GW501 := Aside0.mk (zs_ hg (zw2_ HB GE486 GE487)); have GE501 := Aside0.mk (zs_ hg (zw2_ HB GE486 GE487)); replace HB := Aside0.mk (below_step (zw2_ HB GE486 GE487) hb); have NB486_501 := Aside0.mk (zn_ hg BK486); have NB501_486 := Aside0.mk (zm_ hg BK486); replace BK486 := za_ BK486 hb; have NB487_501 := Aside0.mk (zn_ hg BK487); have NB501_487 := Aside0.mk (zm_ hg BK487); replace BK487 := za_ BK487 hb; clear hb hbox hg; obtain ⟨Ao34, co34, eo34⟩ := Kd.R_slice HO497.out; subst eo34; have hnb35 := NB501_486.out; have hnc35 := NB486_501.out; have hnb36 := NB501_487.out; have hnc36 := NB487_501.out; have hcz37_0 := zx_ (v := .slice none 0 0) BK501 0; have hcz37_1 := zx_ (v := .slice none 0 0) BK501 1; have hfz37_0 := blk_frozen BK501.out 0; have hfz37_1 := blk_frozen BK501.out 1; obtain ⟨Ao38, co38, eo38⟩ := Kd.R_slice HO500.out; subst eo38))
     go_loopg [9] kj18 (fun kq v9 w' => ∃ (x9_3 : Int) (x502001_3 : List Int) (u502001 : Value), v9 = .int .i64 x9_3 ∧ Aside0 (carouselref5_Fold.l0 kq l1 x9_3 l0_0 l0_1 t495 x502001_3 = some (r1, r2, r3)) ∧ Aside0 (kq ≤ kj18) ∧ Aside0 (Kd.R (Kd.int .i64) 3 w' w.heap.size (fun _ => True) (.slice Ao34 t495.length co34) t495) ∧ Aside0 (Kd.R (Kd.int .i64) 23 w' w.heap.size (fun _ => True) u502001 x502001_3) ∧ Aside0 (w'.heap[gb486]? = some (.cells #[(.slice A0_0 l0_0.length c0_0), (.slice A0_1 l0_1.length c0_1)] 27 (0, 0))) ∧ Aside0 (w'.heap[gb487]? = some (.cells #[(.slice none 0 0), (.slice none 0 0)] 27 (0, 0))) ∧ Aside0 (w'.heap[gb501]? = some (.cells #[(.slice Ao34 t495.length co34), u502001] 27 (0, 0))) ∧ Aside0 (Below w.heap.size w w'))
     case atStart => exact ⟨(0), (t498), (.slice Ao38 t498.length co38), z1_, H', ⟨Nat.le_refl _⟩, ⟨zr_ (Kd.R_mono (Kd.R_far (p := ⟨gb501, 1, none⟩) (Kd.R_far (p := ⟨gb501, 0, none⟩) (Kd.R_types HO497.out BK501.out (by decide)) (fun _ hk => hk.2) (.slice Ao34 t495.length co34)) (fun _ hk => hk.2) (.slice Ao38 t498.length co38)) (fun _ hk => trivial))⟩, ⟨zr_ (Kd.R_mono (Kd.R_far (p := ⟨gb501, 1, none⟩) (Kd.R_far (p := ⟨gb501, 0, none⟩) (Kd.R_types HO500.out BK501.out (by decide)) (fun _ hk => hk.2) (.slice Ao34 t495.length co34)) (fun _ hk => hk.2) (.slice Ao38 t498.length co38)) (fun _ hk => trivial))⟩, ⟨zv1_ BK486 NB486_501⟩, ⟨zv1_ BK487 NB487_501⟩, ⟨zo2_ BK501⟩, ⟨zw3_ HB GE486 GE487 GE501⟩⟩
     case round =>
      clear H'
      try clear c1
      try clear c2
      try clear p2
      try clear c3
      try clear c4
      try clear c7
      try clear c9
      try clear c12
      try clear c15
      try clear c16
      try clear c18
      try clear c20
      try clear c23
      try clear c23b0
      try clear c23b1
      try clear c25
      try clear c28
      try clear c29
      try clear c32
      try clear c35
      try clear c36
      try clear hcz10_0
      try clear hcz10_1
      try clear hcz13_0
      try clear hcz13_1
      try clear hcz17_0
      try clear hcz17_1
      try clear hcz21_0
      try clear hcz21_1
      try clear hcz26_0
      try clear hcz26_1
      try clear hcz30_0
      try clear hcz30_1
      try clear hcz37_0
      try clear hcz37_1
      try clear hfz10_0
      try clear hfz10_1
      try clear hfz13_0
      try clear hfz13_1
      try clear hfz17_0
      try clear hfz17_1
      try clear hfz21_0
      try clear hfz21_1
      try clear hfz26_0
      try clear hfz26_1
      try clear hfz30_0
      try clear hfz30_1
      try clear hfz37_0
      try clear hfz37_1
      try clear p2
      obtain ⟨x9_3, x502001_3, u502001, rfl, HA, HK3, HO_502000, HO_502001, BK486, BK487, BK501, HB⟩ := hrel
      cases gk with
      | zero => exact absurd HA.out (by simp [carouselref5_Fold.l0])
      | succ k3 =>
       have H := HA.out
       clear HA
       simp only [carouselref5_Fold.l0] at H
       by_cases c39 : x9_3 < (l0_1.length : Int)
       rotate_left
       ·rw [if_neg c39] at H
        have c39b0 : decide (x9_3 < (l0_1.length : Int)) = false := decide_eq_false c39
        clear c39
        simp only [Option.some.injEq, Prod.mk.injEq] at H
        obtain ⟨rfl, rfl, rfl⟩ := H
        have hnb54 := NB486_487.out
        have hnc54 := NB487_486.out
        have hnb55 := NB486_501.out
        have hnc55 := NB501_486.out
        have hcz56_0 := zx_ (v := .slice A0_0 l0_0.length c0_0) BK486 0
        have hcz56_1 := zx_ (v := .slice A0_1 l0_1.length c0_1) BK486 1
        have hfz56_0 := blk_frozen BK486.out 0
        have hfz56_1 := blk_frozen BK486.out 1
        have hnb57 := NB501_487.out
        have hnc57 := NB487_501.out
        have hcz58_0 := zx_ (v := .slice Ao34 t495.length co34) BK501 0
        have hcz58_1 := zx_ (v := u502001) BK501 1
        have hfz58_0 := blk_frozen BK501.out 0
        have hfz58_1 := blk_frozen BK501.out 1
        have hcz59_0 := zx_ (v := .slice none 0 0) BK487 0
        have hcz59_1 := zx_ (v := .slice none 0 0) BK487 1
        have hfz59_0 := blk_frozen BK487.out 0
        have hfz59_1 := blk_frozen BK487.out 1
        obtain ⟨Ao60, co60, eo60⟩ := Kd.R_slice HO_502001.out
        subst eo60
        go_wp2
        refine bodyPost_ret (results_ct rfl _ _ gb487 27 #[.slice Ao34 t495.length co34, .slice Ao60 x502001_3.length co60] (0, 0) _ rfl (zo2_ BK487) Try.underlying27 rfl (by kernel_rfl)) rfl ?_
        exact ⟨_, _, z0_, zr_ (Kd.R_mono (Kd.R_far (p := ⟨gb487, 1, none⟩) (Kd.R_far (p := ⟨gb487, 0, none⟩) (Kd.R_types HO_502000.out BK487.out (by decide)) (fun _ hk => hk.2) (.slice Ao34 t495.length co34)) (fun _ hk => hk.2) (.slice Ao60 x502001_3.length co60)) (fun _ hk => trivial)), zr_ (Kd.R_mono (Kd.R_far (p := ⟨gb487, 1, none⟩) (Kd.R_far (p := ⟨gb487, 0, none⟩) (Kd.R_types HO_502001.out BK487.out (by decide)) (fun _ hk => hk.2) (.slice Ao34 t495.length co34)) (fun _ hk => hk.2) (.slice Ao60 x502001_3.length co60)) (fun _ hk => trivial)), zw3_ HB GE486 GE487 GE501⟩
       rw [if_pos c39] at H
       have c39b0 : decide (x9_3 < (l0_1.length : Int)) = true := decide_eq_true c39
       clear c39
       replace H := Option.bind_eq_some_iff.mp H
       obtain ⟨⟨t502, t503⟩, A400, H⟩ := H
       (try dsimp only at H)
       have A40 := Aside0.mk A400
       clear A400
       by_cases c41 : 0 ≤ t502
       rotate_left
       ·rw [if_neg c41] at H
        exact absurd H (by simp)
       rw [if_pos c41] at H
       have c41b0 : decide (0 ≤ t502) = true := decide_eq_true c41
       clear c41
       by_cases c42 : t502 < (x502001_3.length : Int)
       rotate_left
       ·rw [if_neg c42] at H
        exact absurd H (by simp)
       rw [if_pos c42] at H
       have c42b0 : decide (t502 < (x502001_3.length : Int)) = true := decide_eq_true c42
       clear c42
       by_cases c43 : 0 ≤ x9_3
       rotate_left
       ·rw [if_neg c43] at H
        exact absurd H (by simp)
       rw [if_pos c43] at H
       have c43b0 : decide (0 ≤ x9_3) = true := decide_eq_true c43
       clear c43
       replace H := Option.bind_eq_some_iff.mp H
       obtain ⟨t506, A440, H⟩ := H
       (try dsimp only at H)
       have A44 := Aside0.mk A440
       clear A440
       obtain ⟨y507, hy507⟩ : ∃ y_ : List Int, y_ = (x502001_3.set (t502 : Int).toNat t506) := ⟨_, rfl⟩
       replace H : (carouselref5_Fold.l0 k3 l1 (wrap64 (x9_3 + 1)) l0_0 l0_1 t495 y507) = some (r1, r2, r3) := by first | (rw [hy507]; with_reducible exact H) | (have H2_ := (Option.bind_some _ _).symm.trans H; rw [hy507]; with_reducible exact H2_) | (have H2_ := (Option.bind_some _ _).symm.trans H; with_reducible exact H2_) | with_reducible exact H | (rw [hy507]; exact H) | exact H
       have Ny507 := Aside0.mk hy507
       clear hy507
       have H' := Aside0.mk H
       clear H
       have hnb46 := NB486_487.out
       have hnc46 := NB487_486.out
       have hnb47 := NB486_501.out
       have hnc47 := NB501_486.out
       have hcz48_0 := zx_ (v := .slice A0_0 l0_0.length c0_0) BK486 0
       have hcz48_1 := zx_ (v := .slice A0_1 l0_1.length c0_1) BK486 1
       have hfz48_0 := blk_frozen BK486.out 0
       have hfz48_1 := blk_frozen BK486.out 1
       try go_wp2_with (first | ((with_reducible refine gate_callee (f := 47) rfl ?_); refine zg_ (some 52) Try.func47 #[.slice A1 l1.length c1, .slice A0_0 l0_0.length c0_0, .int .i64 x9_3] (h := ?_); (with_reducible refine (carouselref5_From.calls k3 _ _ l1 _ _ l0_0 x9_3 t502 t503 _ ?side1 ?side2 ?side3 ?side4 A40.out).mono ?_); (case side1 => exact zk_ (Kd.C_below HR1.out HB.out)); (case side2 => exact HC1.out); (case side3 => exact zk_ (Kd.C_below HR0_0.out HB.out)); (case side4 => exact HC0_0.out); rintro e w49 ⟨rfl, hb⟩; refine ⟨_, rfl, ?_⟩; replace HO_502000 := zy_ HO_502000 hb; replace HO_502001 := zy_ HO_502001 hb; replace BK486 := za_ BK486 hb; replace BK487 := za_ BK487 hb; replace BK501 := za_ BK501 hb; replace HB := Aside0.mk (below_step (zw3_ HB GE486 GE487 GE501) hb); (try clear hb)))
       replace HO_502000 := Aside0.mk (Kd.R_drew HO_502000.out)
       replace HO_502001 := Aside0.mk (Kd.R_drew HO_502001.out)
       replace BK486 := Aside0.mk (blk_drew BK486.out)
       replace BK487 := Aside0.mk (blk_drew BK487.out)
       replace BK501 := Aside0.mk (blk_drew BK501.out)
       replace HB := Aside0.mk (below_drew1 HB.out)
       obtain ⟨Ao51, co51, eo51⟩ := Kd.R_slice HO_502001.out
       (first | subst eo51 | (injection eo51 with f1_ f2_ f3_; have f4_ := f1_.symm; have f5_ := f3_.symm; clear f1_ f2_ f3_; subst f4_; subst f5_))
       have p504 : 0 ≤ (t502 : Int) := of_decide_eq_true (by first | (with_reducible assumption) | assumption)
       have q504 : t502 < (x502001_3.length : Int) := of_decide_eq_true (by first | (with_reducible assumption) | assumption)
       obtain ⟨ad504, e504, hx504_0⟩ := Kd.at_int (Kd.R_reads' HO_502001.out).2.2 t502 p504 q504
       cases e504
       replace p504 := eq_true p504
       replace q504 := eq_true q504
       have p505 : 0 ≤ (x9_3 : Int) := of_decide_eq_true (by first | (with_reducible assumption) | assumption)
       have q505 : x9_3 < (l0_1.length : Int) := of_decide_eq_true (by first | (with_reducible assumption) | assumption)
       obtain ⟨ad505, e505, hx505_0⟩ := Kd.at_int HR0_1.out x9_3 p505 q505
       have hw505_0 := hx505_0
       cases e505
       replace hx505_0 := (HB.out.cell (World.block_lt_of_cell? w _ hx505_0)).trans hx505_0
       replace p505 := eq_true p505
       replace q505 := eq_true q505
       refine start_ (n := 16) (S := fun w' => w'.cell? ⟨gb501, 0, none⟩ = some (.slice Ao34 t495.length co34) ∧ w'.cell? ⟨gb501, 1, none⟩ = some (.slice (some ad504) x502001_3.length co51) ∧ w'.cell? ⟨gb486, 0, none⟩ = some (.slice A0_0 l0_0.length c0_0) ∧ w'.cell? ⟨gb486, 1, none⟩ = some (.slice (some ad505) l0_1.length c0_1) ∧ w'.cell? (ad504.add (t502).toNat) = some (.int .i64 (rd x502001_3 t502)) ∧ w'.cell? (ad505.add (x9_3).toNat) = some (.int .i64 (rd l0_1 x9_3))) (ds := [15]) #[false, false, false, false, false, false, false, false, false, false, false, false, false, false, false, false] (by kernel_rfl) rfl rfl ⟨(blk_cell BK501.out 0).trans rfl, (blk_cell BK501.out 1).trans rfl, (blk_cell BK486.out 0).trans rfl, (blk_cell BK486.out 1).trans rfl, hx504_0, ((HB.out.cell (World.block_lt_of_cell? w _ hw505_0)).trans hw505_0)⟩ (fun hHeld => ?_); refine with_tabW carouselref5_Fold.tab11 carouselref5_Fold.bits11 (fun HT_ HW_ => ?_)
       generalize w49.drew = w50 at HO_502000 HO_502001 BK486 BK487 BK501 HB hx504_0 hx505_0 hHeld ⊢
       refine yp_ ?_ 0 55
       refine yp_ ?_ 2 57
       refine yp_ ?_ 3 58
       refine yp_ ?_ 5 60
       refine yp_ ?_ 8 63
       refine yp_ ?_ 10 65
       refine yt6_ ?_ 1 56
       refine yt6_ ?_ 4 59
       refine yp_ ?_ 6 61
       refine yt6_ ?_ 7 62
       refine yt6_ ?_ 9 64
       refine yp_ ?_ 11 66
       refine yt6_ ?_ 12 67
       refine yo_ 13 (some 68) (fun K hK => ?_)
       refine yg_ Try.func48 #[.int .i64 (rd x502001_3 t502), .int .i64 (rd l0_1 x9_3)] ?_
       with_reducible refine (carouselref1_Add.calls k3 (rd x502001_3 t502) (rd l0_1 x9_3) t506 _ A44.out).mono ?_
       rintro e w52 ⟨rfl, hb⟩
       have HS4_ := (hb.cell (World.block_lt_of_cell? _ _ (hHeld.2.2.2.2.1))).trans (hHeld.2.2.2.2.1)
       refine ⟨_, rfl, ?_⟩
       replace HO_502000 := zy_ HO_502000 hb
       replace HO_502001 := zy_ HO_502001 hb
       replace BK486 := za_ BK486 hb
       replace BK487 := za_ BK487 hb
       replace BK501 := za_ BK501 hb
       replace HB := Aside0.mk (below_step (zw3_ HB GE486 GE487 GE501) hb)
       (try clear hb)
       (try clear hb2)
       (try clear hk)
       (try clear hi)
       have p45 : 0 ≤ (t502 : Int) := of_decide_eq_true (by first | (with_reducible assumption) | assumption)
       have q45 : (t502 : Int) < ((x502001_3.length : Int) : Int) := of_decide_eq_true (by first | (with_reducible assumption) | assumption)
       obtain ⟨go45, co45, eo45, gb45, gl45, cl45, HG45⟩ := Kd.R_form HO_502001.out (by omega)
       (first | cases eo45 | (injection eo45 with ea_ en_ ec_; (first | subst ea_ | (injection ea_ with ea_; subst ea_)); subst ec_; clear en_))
       have GB45 := Aside0.mk gb45
       have GG45 := Aside0.mk HG45
       clear gb45 gl45 HG45
       (first | simp only [add_plain] at hx504_0 | skip)
       obtain ⟨hx45_0, hf45_0⟩ := Kd.R_celln 0 HO_502001.out (t502 : Int) p45 q45
       replace p45 := eq_true p45
       replace q45 := eq_true q45
       have HP53 := Kd.R_putn HO_502001.out (t502 : Int) t506
       rw [← Ny507.out] at HP53
       have HQ53 := Aside0.mk HP53
       clear HP53
       refine hK.out _ _ ⟨(blk_cell BK501.out 0).trans rfl, (blk_cell BK501.out 1).trans rfl, (blk_cell BK486.out 0).trans rfl, (blk_cell BK486.out 1).trans rfl, HS4_, ((HB.out.cell (World.block_lt_of_cell? w _ hw505_0)).trans hw505_0)⟩ (fun hHeld => ?_)
       clear hK K
       refine zq_ (some 68) (h := ?_)
       refine yp_ ?_ 14 69
       refine yl_ 15 none (fun K hK => ?_)
       refine skip_ (w1 := ?_) (by rfl) rfl ?_ ?_
       rotate_left
       ·go_simp
        rfl
       refine hK.out _ _ ?_
       clear hK K
       refine done_ (done_of HT_.out (by kernel_rfl)) ?_
       try go_wp2
       go_roundg k3
       case measure => have := HJ2.out; have := HJ18.out; have := HK3.out; omega
       case rel => exact ⟨(wrap64 (x9_3 + 1)), (y507), (.slice (some ⟨go45, 0, none⟩) x502001_3.length co51), z1_, H', ⟨by have := HJ2.out; have := HJ18.out; have := HK3.out; omega⟩, ⟨zr_ (Kd.R_mono (Kd.R_far (p := ⟨go45, (t502 : Int).toNat, none⟩) (Kd.R_types HO_502000.out GG45.out (by decide)) (fun _ hk => hk.2) (.int .i64 t506)) (fun _ hk => trivial))⟩, ⟨zr_ HQ53.out⟩, ⟨by (with_reducible repeat (first | refine blk_drewN ?_ _ | refine blk_drew ?_ | refine blk_alloc ?_ _)); refine blk_far ?_ (by have h_ := Kd.R_ne HO_502001.out BK486.out (by decide); intro e_; exact h_ (by rw [e_]; rfl)) _; (with_reducible repeat (first | refine blk_drewN ?_ _ | refine blk_drew ?_ | refine blk_alloc ?_ _)); exact BK486.out⟩, ⟨by (with_reducible repeat (first | refine blk_drewN ?_ _ | refine blk_drew ?_ | refine blk_alloc ?_ _)); refine blk_far ?_ (by have h_ := Kd.R_ne HO_502001.out BK487.out (by decide); intro e_; exact h_ (by rw [e_]; rfl)) _; (with_reducible repeat (first | refine blk_drewN ?_ _ | refine blk_drew ?_ | refine blk_alloc ?_ _)); exact BK487.out⟩, ⟨by (with_reducible repeat (first | refine blk_drewN ?_ _ | refine blk_drew ?_ | refine blk_alloc ?_ _)); refine blk_far ?_ (by have h_ := Kd.R_ne HO_502001.out BK501.out (by decide); intro e_; exact h_ (by rw [e_]; rfl)) _; (with_reducible repeat (first | refine blk_drewN ?_ _ | refine blk_drew ?_ | refine blk_alloc ?_ _)); exact BK501.out⟩, ⟨by repeat (first | (with_reducible first | exact HB.out | apply below_alloc | apply pw_below_drewN | apply below_drew1 | refine below_set ?_ GB45.out | refine below_set ?_ GE486.out | refine below_set ?_ GE487.out | refine below_set ?_ GE501.out) | exact HB.out)⟩⟩

end Go.Proofs.Ytbdhabpplidgfaa.PTensTurns
