/- The functions that the law TensTurns reaches, as Lean functions, and that each call of the Go function does what its Lean function says, wherever that one answers. Written by a program of mine over the print of the kit; Lean checks it. -/
import Derived.Test.YtbdhabpplidgfaaPTensTurnsx0
import Derived.Test.YtbdhabpplidgfaaPTensTurnsx5
namespace Go.Proofs.Ytbdhabpplidgfaa.PTensTurns
open Go.RowKit Go.Proofs.YtbdhabpplidgfaaW.PrintWords Go.Proofs.YtbdhabpplidgfaaW.PrintLast Go.Proofs.YtbdhabpplidgfaaW.PrintMore
attribute [local go_sem] max2_int min2_int max_two min_two max_three min_three max_four min_four   -- for this text's walks alone
set_option linter.unusedVariables false
set_option linter.unusedSimpArgs false

/-! ### carouselref5_Alike: function 14 -/
mutual
def carouselref5_Alike.j0 : Nat → Bool → List Int → List Int → List Int → List Int → Option (Bool)
 | 0, _, _, _, _, _ => none
 | k + 1, x20, x228000, x228001, x229000, x229001 => if x20 = true then (some false) else (carouselref5_Alike.l0 k 0 x228000 x228001 x229000 x229001)
def carouselref5_Alike.l0 : Nat → Int → List Int → List Int → List Int → List Int → Option (Bool)
 | 0, _, _, _, _, _ => none
 | k + 1, x5, x228000, x228001, x229000, x229001 => if x5 < (x228001.length : Int) then (if 0 ≤ x5 then (if x5 < (x229001.length : Int) then (if (rd x228001 x5) = (rd x229001 x5) then (carouselref5_Alike.l0 k (wrap64 (x5 + 1)) x228000 x228001 x229000 x229001) else (some false)) else (none)) else (none)) else (some true)
end
def carouselref5_Alike.f (k : Nat) (l0_0 : List Int) (l0_1 : List Int) (l1_0 : List Int) (l1_1 : List Int) : Option (Bool) := (carouselref5_Same.f k l0_0 l1_0).bind fun t229 => (if t229 = true then (carouselref5_Alike.j0 k ((l0_1.length : Int) != (l1_1.length : Int)) l0_0 l0_1 l1_0 l1_1) else (carouselref5_Alike.j0 k true l0_0 l0_1 l1_0 l1_1))
theorem carouselref5_Alike.mono_l : ∀ k, (∀ y0 y1 y2 y3 y4, LeO (carouselref5_Alike.j0 k y0 y1 y2 y3 y4) (carouselref5_Alike.j0 (k + 1) y0 y1 y2 y3 y4)) ∧ (∀ y0 y1 y2 y3 y4, LeO (carouselref5_Alike.l0 k y0 y1 y2 y3 y4) (carouselref5_Alike.l0 (k + 1) y0 y1 y2 y3 y4))
 | 0 => ⟨fun _ _ _ _ _ r h => by simp [carouselref5_Alike.j0] at h, fun _ _ _ _ _ r h => by simp [carouselref5_Alike.l0] at h⟩
 | k + 1 => by
  obtain ⟨ih0, ih1⟩ := carouselref5_Alike.mono_l k
  refine ⟨?_, ?_⟩
  ·intro y0 y1 y2 y3 y4
   unfold carouselref5_Alike.j0
   repeat' first
   | (with_reducible exact ih0 _ _ _ _ _)
   | (with_reducible exact ih1 _ _ _ _ _)
   | (with_reducible exact LeO.refl _)
   | (with_reducible exact LeO.none _)
   | (with_reducible refine LeO.ite ?_ ?_)
   | (with_reducible refine LeO.bind ?_ (fun _ => ?_))
   | exact ih0 _ _ _ _ _
   | exact ih1 _ _ _ _ _
   | exact LeO.none _
   | refine LeO.ite ?_ ?_
   | refine LeO.bind ?_ (fun _ => ?_)
  ·intro y0 y1 y2 y3 y4
   unfold carouselref5_Alike.l0
   repeat' first
   | (with_reducible exact ih0 _ _ _ _ _)
   | (with_reducible exact ih1 _ _ _ _ _)
   | (with_reducible exact LeO.refl _)
   | (with_reducible exact LeO.none _)
   | (with_reducible refine LeO.ite ?_ ?_)
   | (with_reducible refine LeO.bind ?_ (fun _ => ?_))
   | exact ih0 _ _ _ _ _
   | exact ih1 _ _ _ _ _
   | exact LeO.none _
   | refine LeO.ite ?_ ?_
   | refine LeO.bind ?_ (fun _ => ?_)
theorem carouselref5_Alike.mono : ∀ a0 a1 a2 a3 k, LeO (carouselref5_Alike.f k a0 a1 a2 a3) (carouselref5_Alike.f (k + 1) a0 a1 a2 a3) := by
 intro a0 a1 a2 a3 k
 obtain ⟨ih0, ih1⟩ := carouselref5_Alike.mono_l k
 unfold carouselref5_Alike.f
 repeat' first
   | (with_reducible exact ih0 _ _ _ _ _)
   | (with_reducible exact ih1 _ _ _ _ _)
   | (with_reducible exact carouselref5_Same.mono _ _ _)
   | (with_reducible exact LeO.refl _)
   | (with_reducible exact LeO.none _)
   | (with_reducible refine LeO.ite ?_ ?_)
   | (with_reducible refine LeO.bind ?_ (fun _ => ?_))
   | exact ih0 _ _ _ _ _
   | exact ih1 _ _ _ _ _
   | exact carouselref5_Same.mono _ _ _
   | exact LeO.none _
   | refine LeO.ite ?_ ?_
   | refine LeO.bind ?_ (fun _ => ?_)
set_option maxHeartbeats 8000000 in
set_option maxRecDepth 100000 in
theorem carouselref5_Alike.calls (k : Nat) (A0_0 : Option Addr) (c0_0 : Nat) (l0_0 : List Int) (A0_1 : Option Addr) (c0_1 : Nat) (l0_1 : List Int) (A1_0 : Option Addr) (c1_0 : Nat) (l1_0 : List Int) (A1_1 : Option Addr) (c1_1 : Nat) (l1_1 : List Int) (r : Bool) (w : World) (hr0_0 : Kd.C (Kd.int .i64) w A0_0 l0_0.length l0_0) (hc0_0 : l0_0.length ≤ c0_0) (hr0_1 : Kd.C (Kd.int .i64) w A0_1 l0_1.length l0_1) (hc0_1 : l0_1.length ≤ c0_1) (hr1_0 : Kd.C (Kd.int .i64) w A1_0 l1_0.length l1_0) (hc1_0 : l1_0.length ≤ c1_0) (hr1_1 : Kd.C (Kd.int .i64) w A1_1 l1_1.length l1_1) (hc1_1 : l1_1.length ≤ c1_1) (h : carouselref5_Alike.f k l0_0 l0_1 l1_0 l1_1 = some r) :
  Calls Try.prog 14 #[.agg #[.slice A0_0 l0_0.length c0_0, .slice A0_1 l0_1.length c0_1], .agg #[.slice A1_0 l1_0.length c1_0, .slice A1_1 l1_1.length c1_1]] w fun e w' => e = .returned (.bool r) ∧ Below w.heap.size w w' := by
 have hu27 := Try.underlying27
 have HR0_0 := Aside0.mk hr0_0
 have HC0_0 := Aside0.mk hc0_0
 clear hr0_0 hc0_0
 have HR0_1 := Aside0.mk hr0_1
 have HC0_1 := Aside0.mk hc0_1
 clear hr0_1 hc0_1
 have HR1_0 := Aside0.mk hr1_0
 have HC1_0 := Aside0.mk hc1_0
 clear hr1_0 hc1_0
 have HR1_1 := Aside0.mk hr1_1
 have HC1_1 := Aside0.mk hc1_1
 clear hr1_1 hc1_1
 have HB := Aside0.mk (Below.refl w.heap.size w)
 have H : ((carouselref5_Same.f k l0_0 l1_0).bind fun t229 => (if t229 = true then (carouselref5_Alike.j0 k ((l0_1.length : Int) != (l1_1.length : Int)) l0_0 l0_1 l1_0 l1_1) else (carouselref5_Alike.j0 k true l0_0 l0_1 l1_0 l1_1))) = some r := h
 clear h
 have HC3 := Aside0.mk H
 clear H
 go_enter Try.func14, Try.ntmps14
 go_upto_region 1 with (first | ((with_reducible refine gate_dst (N := 2) rfl ?_); (try (refine gate_guard (by rfl) ?_; dsimp only)); refine box_event ?hg (N := 2) ?hd (cs := #[.slice A0_0 l0_0.length c0_0, .slice A0_1 l0_1.length c0_1]) (t := 27) ?hr ?_; (case hd => rfl); (case hg => rfl); (case hr => first | (go_simp; done) | (go_simp; rfl)); intro gb227 hg w4 hbox hb; have BK227 := Aside0.mk (hbox); have GW227 := Aside0.mk (zs_ hg (zw0_ HB)); have GE227 := Aside0.mk (zs_ hg (zw0_ HB)); replace HB := Aside0.mk (below_step (zw0_ HB) hb); clear hb hbox hg) | ((with_reducible refine gate_dst (N := 3) rfl ?_); (try (refine gate_guard (by rfl) ?_; dsimp only)); refine box_event ?hg (N := 3) ?hd (cs := #[.slice A1_0 l1_0.length c1_0, .slice A1_1 l1_1.length c1_1]) (t := 27) ?hr ?_; (case hd => rfl); (case hg => rfl); (case hr => first | (go_simp; done) | (go_simp; rfl)); intro gb228 hg w5 hbox hb; have BK228 := Aside0.mk (hbox); have GW228 := Aside0.mk (zs_ hg (zw1_ HB GE227)); have GE228 := Aside0.mk (zs_ hg (zw1_ HB GE227)); replace HB := Aside0.mk (below_step (zw1_ HB GE227) hb); have NB227_228 := Aside0.mk (zn_ hg BK227); have NB228_227 := Aside0.mk (zm_ hg BK227); replace BK227 := za_ BK227 hb; clear hb hbox hg))
 repeat (go_quiet (first | ((with_reducible refine gate_dst (N := 2) rfl ?_); (try (refine gate_guard (by rfl) ?_; dsimp only)); refine box_event ?hg (N := 2) ?hd (cs := #[.slice A0_0 l0_0.length c0_0, .slice A0_1 l0_1.length c0_1]) (t := 27) ?hr ?_; (case hd => rfl); (case hg => rfl); (case hr => first | (go_simp; done) | (go_simp; rfl)); intro gb227 hg w4 hbox hb; have BK227 := Aside0.mk (hbox); have GW227 := Aside0.mk (zs_ hg (zw0_ HB)); have GE227 := Aside0.mk (zs_ hg (zw0_ HB)); replace HB := Aside0.mk (below_step (zw0_ HB) hb); clear hb hbox hg) | ((with_reducible refine gate_dst (N := 3) rfl ?_); (try (refine gate_guard (by rfl) ?_; dsimp only)); refine box_event ?hg (N := 3) ?hd (cs := #[.slice A1_0 l1_0.length c1_0, .slice A1_1 l1_1.length c1_1]) (t := 27) ?hr ?_; (case hd => rfl); (case hg => rfl); (case hr => first | (go_simp; done) | (go_simp; rfl)); intro gb228 hg w5 hbox hb; have BK228 := Aside0.mk (hbox); have GW228 := Aside0.mk (zs_ hg (zw1_ HB GE227)); have GE228 := Aside0.mk (zs_ hg (zw1_ HB GE227)); replace HB := Aside0.mk (below_step (zw1_ HB GE227) hb); have NB227_228 := Aside0.mk (zn_ hg BK227); have NB228_227 := Aside0.mk (zm_ hg BK227); replace BK227 := za_ BK227 hb; clear hb hbox hg)); go_upto_region 1 with (first | ((with_reducible refine gate_dst (N := 2) rfl ?_); (try (refine gate_guard (by rfl) ?_; dsimp only)); refine box_event ?hg (N := 2) ?hd (cs := #[.slice A0_0 l0_0.length c0_0, .slice A0_1 l0_1.length c0_1]) (t := 27) ?hr ?_; (case hd => rfl); (case hg => rfl); (case hr => first | (go_simp; done) | (go_simp; rfl)); intro gb227 hg w4 hbox hb; have BK227 := Aside0.mk (hbox); have GW227 := Aside0.mk (zs_ hg (zw0_ HB)); have GE227 := Aside0.mk (zs_ hg (zw0_ HB)); replace HB := Aside0.mk (below_step (zw0_ HB) hb); clear hb hbox hg) | ((with_reducible refine gate_dst (N := 3) rfl ?_); (try (refine gate_guard (by rfl) ?_; dsimp only)); refine box_event ?hg (N := 3) ?hd (cs := #[.slice A1_0 l1_0.length c1_0, .slice A1_1 l1_1.length c1_1]) (t := 27) ?hr ?_; (case hd => rfl); (case hg => rfl); (case hr => first | (go_simp; done) | (go_simp; rfl)); intro gb228 hg w5 hbox hb; have BK228 := Aside0.mk (hbox); have GW228 := Aside0.mk (zs_ hg (zw1_ HB GE227)); have GE228 := Aside0.mk (zs_ hg (zw1_ HB GE227)); replace HB := Aside0.mk (below_step (zw1_ HB GE227) hb); have NB227_228 := Aside0.mk (zn_ hg BK227); have NB228_227 := Aside0.mk (zm_ hg BK227); replace BK227 := za_ BK227 hb; clear hb hbox hg)))
 (try simp only [Act.put, List.setIfInBounds_toArray, List.set_cons_zero, List.set_cons_succ])
 go_cut [20] (fun v20 wc => ∃ (kq : Nat) (x20_2 : Bool), v20 = .bool x20_2 ∧ Aside0 (carouselref5_Alike.j0 kq x20_2 l0_0 l0_1 l1_0 l1_1 = some r) ∧ Aside0 (kq ≤ k) ∧ Aside0 (wc.heap[gb227]? = some (.cells #[(.slice A0_0 l0_0.length c0_0), (.slice A0_1 l0_1.length c0_1)] 27 (0, 0))) ∧ Aside0 (wc.heap[gb228]? = some (.cells #[(.slice A1_0 l1_0.length c1_0), (.slice A1_1 l1_1.length c1_1)] 27 (0, 0))) ∧ Aside0 (Below w.heap.size w wc))
 case first =>
  have H := HC3.out
  clear HC3
  replace H := Option.bind_eq_some_iff.mp H
  obtain ⟨t229, A60, H⟩ := H
  (try dsimp only at H)
  have A6 := Aside0.mk A60
  clear A60
  by_cases c7 : t229 = true
  ·subst c7
   have H1 : (carouselref5_Alike.j0 k ((l0_1.length : Int) != (l1_1.length : Int)) l0_0 l0_1 l1_0 l1_1) = some r := by rw [if_pos rfl] at H; exact H
   clear H
   have H := H1
   clear H1
   have H' := Aside0.mk H
   clear H
   have hnb8 := NB227_228.out
   have hnc8 := NB228_227.out
   have hcz9_0 := zx_ (v := .slice A0_0 l0_0.length c0_0) BK227 0
   have hcz9_1 := zx_ (v := .slice A0_1 l0_1.length c0_1) BK227 1
   have hfz9_0 := blk_frozen BK227.out 0
   have hfz9_1 := blk_frozen BK227.out 1
   have hcz10_0 := zx_ (v := .slice A1_0 l1_0.length c1_0) BK228 0
   have hcz10_1 := zx_ (v := .slice A1_1 l1_1.length c1_1) BK228 1
   have hfz10_0 := blk_frozen BK228.out 0
   have hfz10_1 := blk_frozen BK228.out 1
   go_wp2_with (first | (go_at_call 37; (with_reducible refine (carouselref5_Same.calls k _ _ l0_0 _ _ l1_0 true _ ?side1 ?side2 ?side3 ?side4 A6.out).mono ?_); (case side1 => exact zk_ (Kd.C_below HR0_0.out HB.out)); (case side2 => exact HC0_0.out); (case side3 => exact zk_ (Kd.C_below HR1_0.out HB.out)); (case side4 => exact HC1_0.out); rintro e w' ⟨rfl, ⟨nd, rfl⟩⟩; (try first | exact ⟨rfl, _, World.drewN_drewN _ _ _⟩ | exact ⟨rfl, _, Eq.trans (World.drewN_drewN _ _ _) (congrArg (World.drewN _) (Nat.add_assoc _ _ _))⟩)))
   repeat (go_quiet (first | (go_at_call 37; (with_reducible refine (carouselref5_Same.calls k _ _ l0_0 _ _ l1_0 true _ ?side1 ?side2 ?side3 ?side4 A6.out).mono ?_); (case side1 => exact zk_ (Kd.C_below HR0_0.out HB.out)); (case side2 => exact HC0_0.out); (case side3 => exact zk_ (Kd.C_below HR1_0.out HB.out)); (case side4 => exact HC1_0.out); rintro e w' ⟨rfl, ⟨nd, rfl⟩⟩; (try first | exact ⟨rfl, _, World.drewN_drewN _ _ _⟩ | exact ⟨rfl, _, Eq.trans (World.drewN_drewN _ _ _) (congrArg (World.drewN _) (Nat.add_assoc _ _ _))⟩))); try go_wp2_with (first | (go_at_call 37; (with_reducible refine (carouselref5_Same.calls k _ _ l0_0 _ _ l1_0 true _ ?side1 ?side2 ?side3 ?side4 A6.out).mono ?_); (case side1 => exact zk_ (Kd.C_below HR0_0.out HB.out)); (case side2 => exact HC0_0.out); (case side3 => exact zk_ (Kd.C_below HR1_0.out HB.out)); (case side4 => exact HC1_0.out); rintro e w' ⟨rfl, ⟨nd, rfl⟩⟩; (try first | exact ⟨rfl, _, World.drewN_drewN _ _ _⟩ | exact ⟨rfl, _, Eq.trans (World.drewN_drewN _ _ _) (congrArg (World.drewN _) (Nat.add_assoc _ _ _))⟩))))
   go_meet
   case rel => exact ⟨_, (((l0_1.length : Int) != (l1_1.length : Int))), z1_, H', ⟨by first | omega | exact Nat.le_refl _⟩, ⟨zb_ BK227⟩, ⟨zb_ BK228⟩, ⟨zw2_ HB GE227 GE228⟩⟩
  replace c7 := Bool.eq_false_iff.mpr c7
  subst c7
  have H1 : (carouselref5_Alike.j0 k true l0_0 l0_1 l1_0 l1_1) = some r := by rw [if_neg (show ¬ (false = true) by decide)] at H; exact H
  clear H
  have H := H1
  clear H1
  have H' := Aside0.mk H
  clear H
  have hnb11 := NB227_228.out
  have hnc11 := NB228_227.out
  have hcz12_0 := zx_ (v := .slice A0_0 l0_0.length c0_0) BK227 0
  have hcz12_1 := zx_ (v := .slice A0_1 l0_1.length c0_1) BK227 1
  have hfz12_0 := blk_frozen BK227.out 0
  have hfz12_1 := blk_frozen BK227.out 1
  have hcz13_0 := zx_ (v := .slice A1_0 l1_0.length c1_0) BK228 0
  have hcz13_1 := zx_ (v := .slice A1_1 l1_1.length c1_1) BK228 1
  have hfz13_0 := blk_frozen BK228.out 0
  have hfz13_1 := blk_frozen BK228.out 1
  go_wp2_with (first | (go_at_call 37; (with_reducible refine (carouselref5_Same.calls k _ _ l0_0 _ _ l1_0 false _ ?side1 ?side2 ?side3 ?side4 A6.out).mono ?_); (case side1 => exact zk_ (Kd.C_below HR0_0.out HB.out)); (case side2 => exact HC0_0.out); (case side3 => exact zk_ (Kd.C_below HR1_0.out HB.out)); (case side4 => exact HC1_0.out); rintro e w' ⟨rfl, ⟨nd, rfl⟩⟩; (try first | exact ⟨rfl, _, World.drewN_drewN _ _ _⟩ | exact ⟨rfl, _, Eq.trans (World.drewN_drewN _ _ _) (congrArg (World.drewN _) (Nat.add_assoc _ _ _))⟩)))
  repeat (go_quiet (first | (go_at_call 37; (with_reducible refine (carouselref5_Same.calls k _ _ l0_0 _ _ l1_0 false _ ?side1 ?side2 ?side3 ?side4 A6.out).mono ?_); (case side1 => exact zk_ (Kd.C_below HR0_0.out HB.out)); (case side2 => exact HC0_0.out); (case side3 => exact zk_ (Kd.C_below HR1_0.out HB.out)); (case side4 => exact HC1_0.out); rintro e w' ⟨rfl, ⟨nd, rfl⟩⟩; (try first | exact ⟨rfl, _, World.drewN_drewN _ _ _⟩ | exact ⟨rfl, _, Eq.trans (World.drewN_drewN _ _ _) (congrArg (World.drewN _) (Nat.add_assoc _ _ _))⟩))); try go_wp2_with (first | (go_at_call 37; (with_reducible refine (carouselref5_Same.calls k _ _ l0_0 _ _ l1_0 false _ ?side1 ?side2 ?side3 ?side4 A6.out).mono ?_); (case side1 => exact zk_ (Kd.C_below HR0_0.out HB.out)); (case side2 => exact HC0_0.out); (case side3 => exact zk_ (Kd.C_below HR1_0.out HB.out)); (case side4 => exact HC1_0.out); rintro e w' ⟨rfl, ⟨nd, rfl⟩⟩; (try first | exact ⟨rfl, _, World.drewN_drewN _ _ _⟩ | exact ⟨rfl, _, Eq.trans (World.drewN_drewN _ _ _) (congrArg (World.drewN _) (Nat.add_assoc _ _ _))⟩))))
  go_meet
  case rel => exact ⟨_, (true), z1_, H', ⟨by first | omega | exact Nat.le_refl _⟩, ⟨zb_ BK227⟩, ⟨zb_ BK228⟩, ⟨zw2_ HB GE227 GE228⟩⟩
 case rest =>
  clear HC3
  try clear c1
  try clear p2
  try clear c7
  try clear c8
  try clear c11
  try clear hcz10_0
  try clear hcz10_1
  try clear hcz12_0
  try clear hcz12_1
  try clear hcz13_0
  try clear hcz13_1
  try clear hcz9_0
  try clear hcz9_1
  try clear hfz10_0
  try clear hfz10_1
  try clear hfz12_0
  try clear hfz12_1
  try clear hfz13_0
  try clear hfz13_1
  try clear hfz9_0
  try clear hfz9_1
  obtain ⟨kq, x20_2, rfl, HA, HJ2, BK227, BK228, HB⟩ := hcut
  cases kq with
  | zero => exact absurd HA.out (by simp [carouselref5_Alike.j0])
  | succ kj2 =>
   have H := HA.out
   clear HA
   simp only [carouselref5_Alike.j0] at H
   by_cases c14 : x20_2 = true
   ·subst c14
    have H1 : (some false) = some r := by rw [if_pos rfl] at H; exact H
    clear H
    have H := H1
    clear H1
    obtain rfl := Option.some.inj H
    go_wp2
    repeat (go_quiet (fail); try go_wp2)
    go_ret
    exact ⟨z0_, zw2_ HB GE227 GE228⟩
   replace c14 := Bool.eq_false_iff.mpr c14
   subst c14
   have H1 : (carouselref5_Alike.l0 kj2 0 l0_0 l0_1 l1_0 l1_1) = some r := by rw [if_neg (show ¬ (false = true) by decide)] at H; exact H
   clear H
   have H := H1
   clear H1
   have H' := Aside0.mk H
   clear H
   go_wp2
   repeat (go_quiet (fail); try go_wp2)
   go_loopg [5] kj2 (fun kq v5 w' => ∃ (x5_2 : Int), v5 = .int .i64 x5_2 ∧ Aside0 (carouselref5_Alike.l0 kq x5_2 l0_0 l0_1 l1_0 l1_1 = some r) ∧ Aside0 (kq ≤ kj2) ∧ Aside0 (w'.heap[gb227]? = some (.cells #[(.slice A0_0 l0_0.length c0_0), (.slice A0_1 l0_1.length c0_1)] 27 (0, 0))) ∧ Aside0 (w'.heap[gb228]? = some (.cells #[(.slice A1_0 l1_0.length c1_0), (.slice A1_1 l1_1.length c1_1)] 27 (0, 0))) ∧ Aside0 (Below w.heap.size w w'))
   case atStart => exact ⟨(0), z1_, H', ⟨Nat.le_refl _⟩, ⟨zb_ BK227⟩, ⟨zb_ BK228⟩, ⟨zw2_ HB GE227 GE228⟩⟩
   case round =>
    clear H'
    try clear c1
    try clear p2
    try clear c7
    try clear c8
    try clear c11
    try clear c14
    try clear hcz10_0
    try clear hcz10_1
    try clear hcz12_0
    try clear hcz12_1
    try clear hcz13_0
    try clear hcz13_1
    try clear hcz9_0
    try clear hcz9_1
    try clear hfz10_0
    try clear hfz10_1
    try clear hfz12_0
    try clear hfz12_1
    try clear hfz13_0
    try clear hfz13_1
    try clear hfz9_0
    try clear hfz9_1
    try clear p2
    obtain ⟨x5_2, rfl, HA, HK2, BK227, BK228, HB⟩ := hrel
    cases gk with
    | zero => exact absurd HA.out (by simp [carouselref5_Alike.l0])
    | succ k2 =>
     have H := HA.out
     clear HA
     simp only [carouselref5_Alike.l0] at H
     by_cases c15 : x5_2 < (l0_1.length : Int)
     rotate_left
     ·rw [if_neg c15] at H
      have c15b0 : decide (x5_2 < (l0_1.length : Int)) = false := decide_eq_false c15
      clear c15
      obtain rfl := Option.some.inj H
      have hnb25 := NB227_228.out
      have hnc25 := NB228_227.out
      have hcz26_0 := zx_ (v := .slice A0_0 l0_0.length c0_0) BK227 0
      have hcz26_1 := zx_ (v := .slice A0_1 l0_1.length c0_1) BK227 1
      have hfz26_0 := blk_frozen BK227.out 0
      have hfz26_1 := blk_frozen BK227.out 1
      go_wp2
      repeat (go_quiet (fail); try go_wp2)
      go_ret
      exact ⟨z0_, zw2_ HB GE227 GE228⟩
     rw [if_pos c15] at H
     have c15b0 : decide (x5_2 < (l0_1.length : Int)) = true := decide_eq_true c15
     clear c15
     by_cases c16 : 0 ≤ x5_2
     rotate_left
     ·rw [if_neg c16] at H
      exact absurd H (by simp)
     rw [if_pos c16] at H
     have c16b0 : decide (0 ≤ x5_2) = true := decide_eq_true c16
     clear c16
     by_cases c17 : x5_2 < (l1_1.length : Int)
     rotate_left
     ·rw [if_neg c17] at H
      exact absurd H (by simp)
     rw [if_pos c17] at H
     have c17b0 : decide (x5_2 < (l1_1.length : Int)) = true := decide_eq_true c17
     clear c17
     by_cases c18 : (rd l0_1 x5_2) = (rd l1_1 x5_2)
     rotate_left
     ·rw [if_neg c18] at H
      have c18b0 : ((rd l0_1 x5_2) == (rd l1_1 x5_2)) = false := beq_eq_false_iff_ne.mpr c18
      have c18b1 : ((rd l0_1 x5_2) != (rd l1_1 x5_2)) = true := bne_iff_ne.mpr c18
      obtain rfl := Option.some.inj H
      have hnb22 := NB227_228.out
      have hnc22 := NB228_227.out
      have hcz23_0 := zx_ (v := .slice A0_0 l0_0.length c0_0) BK227 0
      have hcz23_1 := zx_ (v := .slice A0_1 l0_1.length c0_1) BK227 1
      have hfz23_0 := blk_frozen BK227.out 0
      have hfz23_1 := blk_frozen BK227.out 1
      have p230 : 0 ≤ (x5_2 : Int) := of_decide_eq_true (by first | (with_reducible assumption) | assumption)
      have q230 : x5_2 < (l0_1.length : Int) := of_decide_eq_true (by first | (with_reducible assumption) | assumption)
      obtain ⟨ad230, e230, hx230_0⟩ := Kd.at_int HR0_1.out x5_2 p230 q230
      cases e230
      replace hx230_0 := (HB.out.cell (World.block_lt_of_cell? w _ hx230_0)).trans hx230_0
      replace p230 := eq_true p230
      replace q230 := eq_true q230
      have hcz24_0 := zx_ (v := .slice A1_0 l1_0.length c1_0) BK228 0
      have hcz24_1 := zx_ (v := .slice A1_1 l1_1.length c1_1) BK228 1
      have hfz24_0 := blk_frozen BK228.out 0
      have hfz24_1 := blk_frozen BK228.out 1
      have p231 : 0 ≤ (x5_2 : Int) := of_decide_eq_true (by first | (with_reducible assumption) | assumption)
      have q231 : x5_2 < (l1_1.length : Int) := of_decide_eq_true (by first | (with_reducible assumption) | assumption)
      obtain ⟨ad231, e231, hx231_0⟩ := Kd.at_int HR1_1.out x5_2 p231 q231
      cases e231
      replace hx231_0 := (HB.out.cell (World.block_lt_of_cell? w _ hx231_0)).trans hx231_0
      replace p231 := eq_true p231
      replace q231 := eq_true q231
      go_wp2
      repeat (go_quiet (fail); try go_wp2)
      go_ret
      exact ⟨z0_, zw2_ HB GE227 GE228⟩
     rw [if_pos c18] at H
     have c18b0 : ((rd l0_1 x5_2) == (rd l1_1 x5_2)) = true := beq_iff_eq.mpr c18
     have c18b1 : ((rd l0_1 x5_2) != (rd l1_1 x5_2)) = false := bne_eq_false_iff_eq.mpr c18
     clear c18
     have H' := Aside0.mk H
     clear H
     have hnb19 := NB227_228.out
     have hnc19 := NB228_227.out
     have hcz20_0 := zx_ (v := .slice A0_0 l0_0.length c0_0) BK227 0
     have hcz20_1 := zx_ (v := .slice A0_1 l0_1.length c0_1) BK227 1
     have hfz20_0 := blk_frozen BK227.out 0
     have hfz20_1 := blk_frozen BK227.out 1
     have p230 : 0 ≤ (x5_2 : Int) := of_decide_eq_true (by first | (with_reducible assumption) | assumption)
     have q230 : x5_2 < (l0_1.length : Int) := of_decide_eq_true (by first | (with_reducible assumption) | assumption)
     obtain ⟨ad230, e230, hx230_0⟩ := Kd.at_int HR0_1.out x5_2 p230 q230
     cases e230
     replace hx230_0 := (HB.out.cell (World.block_lt_of_cell? w _ hx230_0)).trans hx230_0
     replace p230 := eq_true p230
     replace q230 := eq_true q230
     have hcz21_0 := zx_ (v := .slice A1_0 l1_0.length c1_0) BK228 0
     have hcz21_1 := zx_ (v := .slice A1_1 l1_1.length c1_1) BK228 1
     have hfz21_0 := blk_frozen BK228.out 0
     have hfz21_1 := blk_frozen BK228.out 1
     have p231 : 0 ≤ (x5_2 : Int) := of_decide_eq_true (by first | (with_reducible assumption) | assumption)
     have q231 : x5_2 < (l1_1.length : Int) := of_decide_eq_true (by first | (with_reducible assumption) | assumption)
     obtain ⟨ad231, e231, hx231_0⟩ := Kd.at_int HR1_1.out x5_2 p231 q231
     cases e231
     replace hx231_0 := (HB.out.cell (World.block_lt_of_cell? w _ hx231_0)).trans hx231_0
     replace p231 := eq_true p231
     replace q231 := eq_true q231
     go_wp2
     repeat (go_quiet (fail); try go_wp2)
     go_roundg k2
     case measure => have := HJ2.out; have := HK2.out; omega
     case rel => exact ⟨(wrap64 (x5_2 + 1)), z1_, H', ⟨by have := HJ2.out; have := HK2.out; omega⟩, ⟨zb_ BK227⟩, ⟨zb_ BK228⟩, ⟨zw2_ HB GE227 GE228⟩⟩

/-! ### carousellaw6_great: function 17 -/
def carousellaw6_great.f (l0_0 : List Int) (l0_1 : List Int) (a1 : Int) : Option (Bool) := if (l0_0.length : Int) > 10 then (some true) else (some (decide ((l0_1.length : Int) > a1)))
set_option maxHeartbeats 8000000 in
set_option maxRecDepth 100000 in
theorem carousellaw6_great.calls (A0_0 : Option Addr) (c0_0 : Nat) (l0_0 : List Int) (A0_1 : Option Addr) (c0_1 : Nat) (l0_1 : List Int) (a1 : Int) (r : Bool) (w : World) (hr0_0 : Kd.C (Kd.int .i64) w A0_0 l0_0.length l0_0) (hc0_0 : l0_0.length ≤ c0_0) (hr0_1 : Kd.C (Kd.int .i64) w A0_1 l0_1.length l0_1) (hc0_1 : l0_1.length ≤ c0_1) (h : carousellaw6_great.f l0_0 l0_1 a1 = some r) :
  Calls Try.prog 17 #[.agg #[.slice A0_0 l0_0.length c0_0, .slice A0_1 l0_1.length c0_1], .int .i64 a1] w fun e w' => e = .returned (.bool r) ∧ Below w.heap.size w w' := by
 have hu27 := Try.underlying27
 have HR0_0 := Aside0.mk hr0_0
 have HC0_0 := Aside0.mk hc0_0
 clear hr0_0 hc0_0
 have HR0_1 := Aside0.mk hr0_1
 have HC0_1 := Aside0.mk hc0_1
 clear hr0_1 hc0_1
 have HB := Aside0.mk (Below.refl w.heap.size w)
 have H : (if (l0_0.length : Int) > 10 then (some true) else (some (decide ((l0_1.length : Int) > a1)))) = some r := h
 clear h
 by_cases c3 : (l0_0.length : Int) > 10
 ·rw [if_pos c3] at H
  have c3b0 : decide (10 < (l0_0.length : Int)) = true := decide_eq_true c3
  have c3b1 : decide (10 < l0_0.length) = true := decide_eq_true (by omega)
  clear c3
  obtain rfl := Option.some.inj H
  go_enter Try.func17, Try.ntmps17
  go_wp2_with (first | ((with_reducible refine gate_dst (N := 2) rfl ?_); (try (refine gate_guard (by rfl) ?_; dsimp only)); refine box_event ?hg (N := 2) ?hd (cs := #[.slice A0_0 l0_0.length c0_0, .slice A0_1 l0_1.length c0_1]) (t := 27) ?hr ?_; (case hd => rfl); (case hg => rfl); (case hr => first | (go_simp; done) | (go_simp; rfl)); intro gb232 hg w4 hbox hb; have BK232 := Aside0.mk (hbox); have GW232 := Aside0.mk (zs_ hg (zw0_ HB)); have GE232 := Aside0.mk (zs_ hg (zw0_ HB)); replace HB := Aside0.mk (below_step (zw0_ HB) hb); clear hb hbox hg; have hcz5_0 := zx_ (v := .slice A0_0 l0_0.length c0_0) BK232 0; have hcz5_1 := zx_ (v := .slice A0_1 l0_1.length c0_1) BK232 1; have hfz5_0 := blk_frozen BK232.out 0; have hfz5_1 := blk_frozen BK232.out 1))
  go_ret
  exact ⟨z0_, zw1_ HB GE232⟩
 rw [if_neg c3] at H
 have c3b0 : decide (10 < (l0_0.length : Int)) = false := decide_eq_false c3
 have c3b1 : decide (10 < l0_0.length) = false := decide_eq_false (by omega)
 clear c3
 obtain rfl := Option.some.inj H
 go_enter Try.func17, Try.ntmps17
 go_wp2_with (first | ((with_reducible refine gate_dst (N := 2) rfl ?_); (try (refine gate_guard (by rfl) ?_; dsimp only)); refine box_event ?hg (N := 2) ?hd (cs := #[.slice A0_0 l0_0.length c0_0, .slice A0_1 l0_1.length c0_1]) (t := 27) ?hr ?_; (case hd => rfl); (case hg => rfl); (case hr => first | (go_simp; done) | (go_simp; rfl)); intro gb232 hg w6 hbox hb; have BK232 := Aside0.mk (hbox); have GW232 := Aside0.mk (zs_ hg (zw0_ HB)); have GE232 := Aside0.mk (zs_ hg (zw0_ HB)); replace HB := Aside0.mk (below_step (zw0_ HB) hb); clear hb hbox hg; have hcz7_0 := zx_ (v := .slice A0_0 l0_0.length c0_0) BK232 0; have hcz7_1 := zx_ (v := .slice A0_1 l0_1.length c0_1) BK232 1; have hfz7_0 := blk_frozen BK232.out 0; have hfz7_1 := blk_frozen BK232.out 1))
 go_ret
 exact ⟨z0_, zw1_ HB GE232⟩

/-! ### slices_Clone_Fix: function 41 -/
def slices_Clone_Fix.f (l0 : List Int) : Option (List Int) := if l0.length < 17592186044416 then some l0 else none
set_option maxHeartbeats 8000000 in
set_option maxRecDepth 100000 in
theorem slices_Clone_Fix.calls (A0 : Option Addr) (c0 : Nat) (l0 : List Int) (r : List Int) (w : World) (hr0 : Kd.C (Kd.int .i64) w A0 l0.length l0) (hc0 : l0.length ≤ c0) (h : slices_Clone_Fix.f l0 = some r) :
  Calls Try.prog 41 #[.slice A0 l0.length c0] w fun e w' => ∃ v0_ : Value, e = .returned (v0_) ∧ Kd.R (Kd.int .i64) 23 w' w.heap.size (fun _ => True) v0_ r ∧ Below w.heap.size w w' := by
 have HR0 := Aside0.mk hr0
 have HC0 := Aside0.mk hc0
 clear hc0
 have HB := Aside0.mk (Below.refl w.heap.size w)
 have heq : ∀ (w : World) (a : Option Addr) (n c n' c' : Nat), (binOp .eql 25 (.slice a n c) (.slice none n' c')).run Try.prog w = .ok (.bool a.isNone) w := fun w a n c n' c' => Lib.run_eql_slice_nil w _ _ a n c n' c' Try.underlying25
 unfold slices_Clone_Fix.f at h
 by_cases c3 : l0.length < 17592186044416
 rotate_left
 ·rw [if_neg c3] at h
  cases h
 rw [if_pos c3] at h
 obtain rfl := Option.some.inj h
 have LMc3 := Aside0.mk c3
 clear c3 h
 cases A0 with
 | none =>
  have e0 : l0 = [] := by
   cases l0 with
   | nil => rfl
   | cons x xs => obtain ⟨ad, e, _⟩ := hr0.2.2 (by simp); cases e
  subst e0
  clear hr0
  go_enter Try.func41, Try.ntmps41
  go_wp2
  go_ret
  exact ⟨_, rfl, Kd.R_nil _ _ _ _ _, Below.refl _ _⟩
 | some a0 =>
  clear hr0
  obtain ⟨y0, hy0⟩ : ∃ y_ : List Int, y_ = (([] : List Int)) := ⟨_, rfl⟩
  have Ny0 := Aside0.mk hy0
  have LMc4 : Aside0 (y0.length + l0.length < 17592186044416) := ⟨by rw [hy0]; simpa using LMc3.out⟩
  obtain ⟨y1, hy1⟩ : ∃ y_ : List Int, y_ = y0 ++ l0 := ⟨_, rfl⟩
  have e1 : y1 = l0 := by rw [hy1, hy0]; rfl
  have Ny1 := Aside0.mk hy1
  have E1 := Aside0.mk e1
  clear hy0 hy1 e1
  go_enter Try.func41, Try.ntmps41
  go_wp2_with (first | ((with_reducible refine gate_dst (N := 5) rfl ?_); refine Kd.R_lit (Kd.int .i64) _ 23 ?hg (N := 5) ?hd (xs := ([] : List Int)) (inner := []) (ok := fun _ => True) (okp := fun _ => True) ?hr ?hp (fun _ hk => hk) trivial (Below.refl _ _) (Nat.le_refl _) (by simp) ?_; (case hd => rfl); (case hg => rfl); (case hr => first | (go_simp; done) | (go_simp; rfl)); (case hp => exact (Reps.none _ _)); intro v182 w8 ho9 hb hg_ hnew_; clear hg_ hnew_; rw [← Ny0.out] at ho9; have n0_ := Aside0.mk (Kd.R_lower ho9 (below_size (zw0_ HB))); have n2_ := Aside0.mk (below_step (zw0_ HB) hb); clear HB; have HO183 := n0_; have HB := n2_; clear n0_ n2_; clear hb ho9) | ((with_reducible refine gate_builtin (b := .append) (xs := #[.tmp 5, .tmp 6]) rfl ?_); at_builtin; refine Kd.R_append_rows (Kd.int .i64) (w0 := w) w.heap.size rfl (.tmp 5) (.tmp 6) 25 23 (.int .i64 0) 8 rfl Try.underlying25 info23 rfl (by decide) (by omega) v182 y0 l0 _ _ _ (fun _ => True) (fun _ => False) rfl rfl ?aO ?aR (fun _ _ h => h) (fun _ h => h.elim) ?aF ?aB ?aS ?aL ?_; (case aR => exact zk_ (Kd.C_below HR0.out HB.out)); (case aB => exact (zw0_ HB)); (case aF => exact (fun _ _ => trivial)); (case aO => exact (zr_ HO183.out)); (case aS => exact (below_size (zw0_ HB))); (case aL => have := LMc4.out; omega); intro v185 w10 ho hb hg hat; rw [← Ny1.out] at ho; have n1_ := Aside0.mk (hb); have n2_ := Aside0.mk (ho); clear HB HO183; have HB := n1_; have HO186 := n2_; clear n1_ n2_; clear ho hb hg hat))
  go_ret
  exact ⟨_, rfl, by rw [← E1.out]; exact HO186.out, HB.out⟩

end Go.Proofs.Ytbdhabpplidgfaa.PTensTurns
