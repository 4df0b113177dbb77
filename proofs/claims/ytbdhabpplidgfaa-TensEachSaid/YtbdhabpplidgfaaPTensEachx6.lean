/- The functions that the law TensEach reaches, as Lean functions, and that each call of the Go function does what its Lean function says, wherever that one answers. Written by a program of mine over the print of the kit; Lean checks it. -/
import Derived.Test.YtbdhabpplidgfaaPTensEachx0
import Derived.Test.YtbdhabpplidgfaaPTensEachx5
namespace Go.Proofs.Ytbdhabpplidgfaa.PTensEach
open Go.RowKit Go.Proofs.YtbdhabpplidgfaaW.PrintWords Go.Proofs.YtbdhabpplidgfaaW.PrintLast Go.Proofs.YtbdhabpplidgfaaW.PrintMore
attribute [local go_sem] max2_int min2_int max_two min_two max_three min_three max_four min_four   -- for this text's walks alone
set_option linter.unusedVariables false
set_option linter.unusedSimpArgs false

/-! ### carouselref5_Alike: function 14 -/
mutual
def carouselref5_Alike.j0 : Nat → Bool → List Int → List Int → List Int → List Int → Option (Bool)
 | 0, _, _, _, _, _ => none
 | k + 1, x20, x228000, x228001, x229000, x229001 => if x20 = true then (some false) else (carouselref5_Alike.l0 k 0 x228000 x228001 x229000 x229001)
def carouselref5_Alike.l0 : Nat → Int → List Int → List Int → List Int → List Int → Option (Bool)
 | 0, _, _, _, _, _ => none
 | k + 1, x5, x228000, x228001, x229000, x229001 => if x5 < (x228001.length : Int) then (if 0 ≤ x5 then (if x5 < (x229001.length : Int) then (if (rd x228001 x5) = (rd x229001 x5) then (carouselref5_Alike.l0 k (wrap64 (x5 + 1)) x228000 x228001 x229000 x229001) else (some false)) else (none)) else (none)) else (some true)
end
def carouselref5_Alike.f (k : Nat) (l0_0 : List Int) (l0_1 : List Int) (l1_0 : List Int) (l1_1 : List Int) : Option (Bool) := (carouselref5_Same.f k l0_0 l1_0).bind fun t229 => (if t229 = true then (carouselref5_Alike.j0 k ((l0_1.length : Int) != (l1_1.length : Int)) l0_0 l0_1 l1_0 l1_1) else (carouselref5_Alike.j0 k true l0_0 l0_1 l1_0 l1_1))
theorem carouselref5_Alike.mono_l : ∀ k, (∀ y0 y1 y2 y3 y4, LeO (carouselref5_Alike.j0 k y0 y1 y2 y3 y4) (carouselref5_Alike.j0 (k + 1) y0 y1 y2 y3 y4)) ∧ (∀ y0 y1 y2 y3 y4, LeO (carouselref5_Alike.l0 k y0 y1 y2 y3 y4) (carouselref5_Alike.l0 (k + 1) y0 y1 y2 y3 y4))
 | 0 => ⟨fun _ _ _ _ _ r h => by simp [carouselref5_Alike.j0] at h, fun _ _ _ _ _ r h => by simp [carouselref5_Alike.l0] at h⟩
 | k + 1 => by
  obtain ⟨ih0, ih1⟩ := carouselref5_Alike.mono_l k
  refine ⟨?_, ?_⟩
  ·intro y0 y1 y2 y3 y4
   unfold carouselref5_Alike.j0
   repeat' first
   | (with_reducible exact ih0 _ _ _ _ _)
   | (with_reducible exact ih1 _ _ _ _ _)
   | (with_reducible exact LeO.refl _)
   | (with_reducible exact LeO.none _)
   | (with_reducible refine LeO.ite ?_ ?_)
   | (with_reducible refine LeO.bind ?_ (fun _ => ?_))
   | exact ih0 _ _ _ _ _
   | exact ih1 _ _ _ _ _
   | exact LeO.none _
   | refine LeO.ite ?_ ?_
   | refine LeO.bind ?_ (fun _ => ?_)
  ·intro y0 y1 y2 y3 y4
   unfold carouselref5_Alike.l0
   repeat' first
   | (with_reducible exact ih0 _ _ _ _ _)
   | (with_reducible exact ih1 _ _ _ _ _)
   | (with_reducible exact LeO.refl _)
   | (with_reducible exact LeO.none _)
   | (with_reducible refine LeO.ite ?_ ?_)
   | (with_reducible refine LeO.bind ?_ (fun _ => ?_))
   | exact ih0 _ _ _ _ _
   | exact ih1 _ _ _ _ _
   | exact LeO.none _
   | refine LeO.ite ?_ ?_
   | refine LeO.bind ?_ (fun _ => ?_)
theorem carouselref5_Alike.mono : ∀ a0 a1 a2 a3 k, LeO (carouselref5_Alike.f k a0 a1 a2 a3) (carouselref5_Alike.f (k + 1) a0 a1 a2 a3) := by
 intro a0 a1 a2 a3 k
 obtain ⟨ih0, ih1⟩ := carouselref5_Alike.mono_l k
 unfold carouselref5_Alike.f
 repeat' first
   | (with_reducible exact ih0 _ _ _ _ _)
   | (with_reducible exact ih1 _ _ _ _ _)
   | (with_reducible exact carouselref5_Same.mono _ _ _)
   | (with_reducible exact LeO.refl _)
   | (with_reducible exact LeO.none _)
   | (with_reducible refine LeO.ite ?_ ?_)
   | (with_reducible refine LeO.bind ?_ (fun _ => ?_))
   | exact ih0 _ _ _ _ _
   | exact ih1 _ _ _ _ _
   | exact carouselref5_Same.mono _ _ _
   | exact LeO.none _
   | refine LeO.ite ?_ ?_
   | refine LeO.bind ?_ (fun _ => ?_)
set_option maxHeartbeats 8000000 in
set_option maxRecDepth 100000 in
theorem carouselref5_Alike.calls (k : Nat) (A0_0 : Option Addr) (c0_0 : Nat) (l0_0 : List Int) (A0_1 : Option Addr) (c0_1 : Nat) (l0_1 : List Int) (A1_0 : Option Addr) (c1_0 : Nat) (l1_0 : List Int) (A1_1 : Option Addr) (c1_1 : Nat) (l1_1 : List Int) (r : Bool) (w : World) (hr0_0 : Kd.C (Kd.int .i64) w A0_0 l0_0.length l0_0) (hc0_0 : l0_0.length ≤ c0_0) (hr0_1 : Kd.C (Kd.int .i64) w A0_1 l0_1.length l0_1) (hc0_1 : l0_1.length ≤ c0_1) (hr1_0 : Kd.C (Kd.int .i64) w A1_0 l1_0.length l1_0) (hc1_0 : l1_0.length ≤ c1_0) (hr1_1 : Kd.C (Kd.int .i64) w A1_1 l1_1.length l1_1) (hc1_1 : l1_1.length ≤ c1_1) (h : carouselref5_Alike.f k l0_0 l0_1 l1_0 l1_1 = some r) :
  Calls Try.prog 14 #[.agg #[.slice A0_0 l0_0.length c0_0, .slice A0_1 l0_1.length c0_1], .agg #[.slice A1_0 l1_0.length c1_0, .slice A1_1 l1_1.length c1_1]] w fun e w' => e = .returned (.bool r) ∧ Below w.heap.size w w' := by
 have hu27 := Try.underlying27
 have HR0_0 := Aside0.mk hr0_0
 have HC0_0 := Aside0.mk hc0_0
 clear hr0_0 hc0_0
 have HR0_1 := Aside0.mk hr0_1
 have HC0_1 := Aside0.mk hc0_1
 clear hr0_1 hc0_1
 have HR1_0 := Aside0.mk hr1_0
 have HC1_0 := Aside0.mk hc1_0
 clear hr1_0 hc1_0
 have HR1_1 := Aside0.mk hr1_1
 have HC1_1 := Aside0.mk hc1_1
 clear hr1_1 hc1_1
 have HB := Aside0.mk (Below.refl w.heap.size w)
 have H : ((carouselref5_Same.f k l0_0 l1_0).bind fun t229 => (if t229 = true then (carouselref5_Alike.j0 k ((l0_1.length : Int) != (l1_1.length : Int)) l0_0 l0_1 l1_0 l1_1) else (carouselref5_Alike.j0 k true l0_0 l0_1 l1_0 l1_1))) = some r := h
 clear h
 have HC3 := Aside0.mk H
 clear H
 go_enter Try.func14, Try.ntmps14
 go_upto_region 1 with (first | ((with_reducible refine gate_dst (N := 2) rfl ?_); (try (refine gate_guard (by rfl) ?_; dsimp only)); refine box_event ?hg (N := 2) ?hd (cs := #[.slice A0_0 l0_0.length c0_0, .slice A0_1 l0_1.length c0_1]) (t := 27) ?hr ?_; (case hd => rfl); (case hg => rfl); (case hr => first | (go_simp; done) | (go_simp; rfl)); intro gb227 hg w4 hbox hb; have n0_ := Aside0.mk (below_step (zw0_ HB) hb); have n1_ := Aside0.mk (hbox); have n2_ := Aside0.mk (zs_ hg (zw0_ HB)); have n3_ := Aside0.mk (zs_ hg (zw0_ HB)); clear HB; have HB := n0_; have BK227 := n1_; have GW227 := n2_; have GE227 := n3_; clear n0_ n1_ n2_ n3_; clear hb hbox hg) | ((with_reducible refine gate_dst (N := 3) rfl ?_); (try (refine gate_guard (by rfl) ?_; dsimp only)); refine box_event ?hg (N := 3) ?hd (cs := #[.slice A1_0 l1_0.length c1_0, .slice A1_1 l1_1.length c1_1]) (t := 27) ?hr ?_; (case hd => rfl); (case hg => rfl); (case hr => first | (go_simp; done) | (go_simp; rfl)); intro gb228 hg w5 hbox hb; have n0_ := Aside0.mk (zl_ BK227 hb); have n1_ := Aside0.mk (below_step (zw1_ HB GE227) hb); have n2_ := Aside0.mk (hbox); have n3_ := Aside0.mk (zs_ hg (zw1_ HB GE227)); have n4_ := Aside0.mk (zs_ hg (zw1_ HB GE227)); have n5_ := Aside0.mk (zn_ hg BK227); have n6_ := Aside0.mk (zm_ hg BK227); clear BK227 HB; have BK227 := n0_; have HB := n1_; have BK228 := n2_; have GW228 := n3_; have GE228 := n4_; have NB227_228 := n5_; have NB228_227 := n6_; clear n0_ n1_ n2_ n3_ n4_ n5_ n6_; clear hb hbox hg))
 repeat (go_quiet (first | ((with_reducible refine gate_dst (N := 2) rfl ?_); (try (refine gate_guard (by rfl) ?_; dsimp only)); refine box_event ?hg (N := 2) ?hd (cs := #[.slice A0_0 l0_0.length c0_0, .slice A0_1 l0_1.length c0_1]) (t := 27) ?hr ?_; (case hd => rfl); (case hg => rfl); (case hr => first | (go_simp; done) | (go_simp; rfl)); intro gb227 hg w4 hbox hb; have n0_ := Aside0.mk (below_step (zw0_ HB) hb); have n1_ := Aside0.mk (hbox); have n2_ := Aside0.mk (zs_ hg (zw0_ HB)); have n3_ := Aside0.mk (zs_ hg (zw0_ HB)); clear HB; have HB := n0_; have BK227 := n1_; have GW227 := n2_; have GE227 := n3_; clear n0_ n1_ n2_ n3_; clear hb hbox hg) | ((with_reducible refine gate_dst (N := 3) rfl ?_); (try (refine gate_guard (by rfl) ?_; dsimp only)); refine box_event ?hg (N := 3) ?hd (cs := #[.slice A1_0 l1_0.length c1_0, .slice A1_1 l1_1.length c1_1]) (t := 27) ?hr ?_; (case hd => rfl); (case hg => rfl); (case hr => first | (go_simp; done) | (go_simp; rfl)); intro gb228 hg w5 hbox hb; have n0_ := Aside0.mk (zl_ BK227 hb); have n1_ := Aside0.mk (below_step (zw1_ HB GE227) hb); have n2_ := Aside0.mk (hbox); have n3_ := Aside0.mk (zs_ hg (zw1_ HB GE227)); have n4_ := Aside0.mk (zs_ hg (zw1_ HB GE227)); have n5_ := Aside0.mk (zn_ hg BK227); have n6_ := Aside0.mk (zm_ hg BK227); clear BK227 HB; have BK227 := n0_; have HB := n1_; have BK228 := n2_; have GW228 := n3_; have GE228 := n4_; have NB227_228 := n5_; have NB228_227 := n6_; clear n0_ n1_ n2_ n3_ n4_ n5_ n6_; clear hb hbox hg)); go_upto_region 1 with (first | ((with_reducible refine gate_dst (N := 2) rfl ?_); (try (refine gate_guard (by rfl) ?_; dsimp only)); refine box_event ?hg (N := 2) ?hd (cs := #[.slice A0_0 l0_0.length c0_0, .slice A0_1 l0_1.length c0_1]) (t := 27) ?hr ?_; (case hd => rfl); (case hg => rfl); (case hr => first | (go_simp; done) | (go_simp; rfl)); intro gb227 hg w4 hbox hb; have n0_ := Aside0.mk (below_step (zw0_ HB) hb); have n1_ := Aside0.mk (hbox); have n2_ := Aside0.mk (zs_ hg (zw0_ HB)); have n3_ := Aside0.mk (zs_ hg (zw0_ HB)); clear HB; have HB := n0_; have BK227 := n1_; have GW227 := n2_; have GE227 := n3_; clear n0_ n1_ n2_ n3_; clear hb hbox hg) | ((with_reducible refine gate_dst (N := 3) rfl ?_); (try (refine gate_guard (by rfl) ?_; dsimp only)); refine box_event ?hg (N := 3) ?hd (cs := #[.slice A1_0 l1_0.length c1_0, .slice A1_1 l1_1.length c1_1]) (t := 27) ?hr ?_; (case hd => rfl); (case hg => rfl); (case hr => first | (go_simp; done) | (go_simp; rfl)); intro gb228 hg w5 hbox hb; have n0_ := Aside0.mk (zl_ BK227 hb); have n1_ := Aside0.mk (below_step (zw1_ HB GE227) hb); have n2_ := Aside0.mk (hbox); have n3_ := Aside0.mk (zs_ hg (zw1_ HB GE227)); have n4_ := Aside0.mk (zs_ hg (zw1_ HB GE227)); have n5_ := Aside0.mk (zn_ hg BK227); have n6_ := Aside0.mk (zm_ hg BK227); clear BK227 HB; have BK227 := n0_; have HB := n1_; have BK228 := n2_; have GW228 := n3_; have GE228 := n4_; have NB227_228 := n5_; have NB228_227 := n6_; clear n0_ n1_ n2_ n3_ n4_ n5_ n6_; clear hb hbox hg)))
 (try simp only [Act.put, List.setIfInBounds_toArray, List.set_cons_zero, List.set_cons_succ])
 go_cut [20] (fun v20 wc => ∃ (kq : Nat) (x20_2 : Bool), v20 = .bool x20_2 ∧ Aside0 (carouselref5_Alike.j0 kq x20_2 l0_0 l0_1 l1_0 l1_1 = some r) ∧ Aside0 (kq ≤ k) ∧ Aside0 (wc.heap[gb227]? = some (.cells #[(.slice A0_0 l0_0.length c0_0), (.slice A0_1 l0_1.length c0_1)] 27 (0, 0))) ∧ Aside0 (wc.heap[gb228]? = some (.cells #[(.slice A1_0 l1_0.length c1_0), (.slice A1_1 l1_1.length c1_1)] 27 (0, 0))) ∧ Aside0 (Below w.heap.size w wc))
 case first =>
  have H := HC3.out
  clear HC3
  replace H := Option.bind_eq_some_iff.mp H
  obtain ⟨t229, A60, H⟩ := H
  (try dsimp only at H)
  have A6 := Aside0.mk A60
  clear A60
  by_cases c7 : t229 = true
  ·subst c7
   have H1 : (carouselref5_Alike.j0 k ((l0_1.length : Int) != (l1_1.length : Int)) l0_0 l0_1 l1_0 l1_1) = some r := by rw [if_pos rfl] at H; exact H
   clear H
   have H := H1
   clear H1
   have H' := Aside0.mk H
   clear H
   have hnb8 := NB227_228.out
   have hnc8 := NB228_227.out
   have hcz9_0 := zx_ (v := .slice A0_0 l0_0.length c0_0) BK227 0
   have hcz9_1 := zx_ (v := .slice A0_1 l0_1.length c0_1) BK227 1
   have hfz9_0 := blk_frozen BK227.out 0
   have hfz9_1 := blk_frozen BK227.out 1
   have hcz10_0 := zx_ (v := .slice A1_0 l1_0.length c1_0) BK228 0
   have hcz10_1 := zx_ (v := .slice A1_1 l1_1.length c1_1) BK228 1
   have hfz10_0 := blk_frozen BK228.out 0
   have hfz10_1 := blk_frozen BK228.out 1
   go_wp2_with (first | (go_at_call 37; (with_reducible refine (carouselref5_Same.calls k _ _ l0_0 _ _ l1_0 true _ ?side1 ?side2 ?side3 ?side4 A6.out).mono ?_); (case side1 => exact zk_ (Kd.C_below HR0_0.out HB.out)); (case side2 => exact HC0_0.out); (case side3 => exact zk_ (Kd.C_below HR1_0.out HB.out)); (case side4 => exact HC1_0.out); rintro e w' ⟨rfl, ⟨nd, rfl⟩⟩; (try first | exact ⟨rfl, _, World.drewN_drewN _ _ _⟩ | exact ⟨rfl, _, Eq.trans (World.drewN_drewN _ _ _) (congrArg (World.drewN _) (Nat.add_assoc _ _ _))⟩)))
   repeat (go_quiet (first | (go_at_call 37; (with_reducible refine (carouselref5_Same.calls k _ _ l0_0 _ _ l1_0 true _ ?side1 ?side2 ?side3 ?side4 A6.out).mono ?_); (case side1 => exact zk_ (Kd.C_below HR0_0.out HB.out)); (case side2 => exact HC0_0.out); (case side3 => exact zk_ (Kd.C_below HR1_0.out HB.out)); (case side4 => exact HC1_0.out); rintro e w' ⟨rfl, ⟨nd, rfl⟩⟩; (try first | exact ⟨rfl, _, World.drewN_drewN _ _ _⟩ | exact ⟨rfl, _, Eq.trans (World.drewN_drewN _ _ _) (congrArg (World.drewN _) (Nat.add_assoc _ _ _))⟩))); try go_wp2_with (first | (go_at_call 37; (with_reducible refine (carouselref5_Same.calls k _ _ l0_0 _ _ l1_0 true _ ?side1 ?side2 ?side3 ?side4 A6.out).mono ?_); (case side1 => exact zk_ (Kd.C_below HR0_0.out HB.out)); (case side2 => exact HC0_0.out); (case side3 => exact zk_ (Kd.C_below HR1_0.out HB.out)); (case side4 => exact HC1_0.out); rintro e w' ⟨rfl, ⟨nd, rfl⟩⟩; (try first | exact ⟨rfl, _, World.drewN_drewN _ _ _⟩ | exact ⟨rfl, _, Eq.trans (World.drewN_drewN _ _ _) (congrArg (World.drewN _) (Nat.add_assoc _ _ _))⟩))))
   go_meet
   case rel => exact ⟨_, (((l0_1.length : Int) != (l1_1.length : Int))), (by first | rfl | (simp; done) | (simp [*]; done)), H', ⟨by first | omega | exact Nat.le_refl _⟩, ⟨zb_ BK227⟩, ⟨zb_ BK228⟩, ⟨zw2_ HB GE227 GE228⟩⟩
  ·replace c7 := Bool.eq_false_iff.mpr c7
   subst c7
   have H1 : (carouselref5_Alike.j0 k true l0_0 l0_1 l1_0 l1_1) = some r := by rw [if_neg (show ¬ (false = true) by decide)] at H; exact H
   clear H
   have H := H1
   clear H1
   have H' := Aside0.mk H
   clear H
   have hnb11 := NB227_228.out
   have hnc11 := NB228_227.out
   have hcz12_0 := zx_ (v := .slice A0_0 l0_0.length c0_0) BK227 0
   have hcz12_1 := zx_ (v := .slice A0_1 l0_1.length c0_1) BK227 1
   have hfz12_0 := blk_frozen BK227.out 0
   have hfz12_1 := blk_frozen BK227.out 1
   have hcz13_0 := zx_ (v := .slice A1_0 l1_0.length c1_0) BK228 0
   have hcz13_1 := zx_ (v := .slice A1_1 l1_1.length c1_1) BK228 1
   have hfz13_0 := blk_frozen BK228.out 0
   have hfz13_1 := blk_frozen BK228.out 1
   go_wp2_with (first | (go_at_call 37; (with_reducible refine (carouselref5_Same.calls k _ _ l0_0 _ _ l1_0 false _ ?side1 ?side2 ?side3 ?side4 A6.out).mono ?_); (case side1 => exact zk_ (Kd.C_below HR0_0.out HB.out)); (case side2 => exact HC0_0.out); (case side3 => exact zk_ (Kd.C_below HR1_0.out HB.out)); (case side4 => exact HC1_0.out); rintro e w' ⟨rfl, ⟨nd, rfl⟩⟩; (try first | exact ⟨rfl, _, World.drewN_drewN _ _ _⟩ | exact ⟨rfl, _, Eq.trans (World.drewN_drewN _ _ _) (congrArg (World.drewN _) (Nat.add_assoc _ _ _))⟩)))
   repeat (go_quiet (first | (go_at_call 37; (with_reducible refine (carouselref5_Same.calls k _ _ l0_0 _ _ l1_0 false _ ?side1 ?side2 ?side3 ?side4 A6.out).mono ?_); (case side1 => exact zk_ (Kd.C_below HR0_0.out HB.out)); (case side2 => exact HC0_0.out); (case side3 => exact zk_ (Kd.C_below HR1_0.out HB.out)); (case side4 => exact HC1_0.out); rintro e w' ⟨rfl, ⟨nd, rfl⟩⟩; (try first | exact ⟨rfl, _, World.drewN_drewN _ _ _⟩ | exact ⟨rfl, _, Eq.trans (World.drewN_drewN _ _ _) (congrArg (World.drewN _) (Nat.add_assoc _ _ _))⟩))); try go_wp2_with (first | (go_at_call 37; (with_reducible refine (carouselref5_Same.calls k _ _ l0_0 _ _ l1_0 false _ ?side1 ?side2 ?side3 ?side4 A6.out).mono ?_); (case side1 => exact zk_ (Kd.C_below HR0_0.out HB.out)); (case side2 => exact HC0_0.out); (case side3 => exact zk_ (Kd.C_below HR1_0.out HB.out)); (case side4 => exact HC1_0.out); rintro e w' ⟨rfl, ⟨nd, rfl⟩⟩; (try first | exact ⟨rfl, _, World.drewN_drewN _ _ _⟩ | exact ⟨rfl, _, Eq.trans (World.drewN_drewN _ _ _) (congrArg (World.drewN _) (Nat.add_assoc _ _ _))⟩))))
   go_meet
   case rel => exact ⟨_, (true), (by first | rfl | (simp; done) | (simp [*]; done)), H', ⟨by first | omega | exact Nat.le_refl _⟩, ⟨zb_ BK227⟩, ⟨zb_ BK228⟩, ⟨zw2_ HB GE227 GE228⟩⟩
 case rest =>
  clear HC3
  try clear c1
  try clear p2
  try clear c7
  try clear c8
  try clear c11
  try clear hcz10_0
  try clear hcz10_1
  try clear hcz12_0
  try clear hcz12_1
  try clear hcz13_0
  try clear hcz13_1
  try clear hcz9_0
  try clear hcz9_1
  try clear hfz10_0
  try clear hfz10_1
  try clear hfz12_0
  try clear hfz12_1
  try clear hfz13_0
  try clear hfz13_1
  try clear hfz9_0
  try clear hfz9_1
  obtain ⟨kq, x20_2, rfl, HA, HJ2, BK227, BK228, HB⟩ := hcut
  cases kq with
  | zero => exact absurd HA.out (by simp [carouselref5_Alike.j0])
  | succ kj2 =>
   have H := HA.out
   clear HA
   simp only [carouselref5_Alike.j0] at H
   by_cases c14 : x20_2 = true
   ·subst c14
    have H1 : (some false) = some r := by rw [if_pos rfl] at H; exact H
    clear H
    have H := H1
    clear H1
    obtain rfl := Option.some.inj H
    go_wp2
    repeat (go_quiet (fail); try go_wp2)
    go_ret
    exact ⟨by first | rfl | (simp [errW_none, errW_some] <;> rfl) | (simp [*, errW_none, errW_some] <;> rfl), zw2_ HB GE227 GE228⟩
   ·replace c14 := Bool.eq_false_iff.mpr c14
    subst c14
    have H1 : (carouselref5_Alike.l0 kj2 0 l0_0 l0_1 l1_0 l1_1) = some r := by rw [if_neg (show ¬ (false = true) by decide)] at H; exact H
    clear H
    have H := H1
    clear H1
    have H' := Aside0.mk H
    clear H
    go_wp2
    repeat (go_quiet (fail); try go_wp2)
    go_loopg [5] kj2 (fun kq v5 w' => ∃ (x5_2 : Int), v5 = .int .i64 x5_2 ∧ Aside0 (carouselref5_Alike.l0 kq x5_2 l0_0 l0_1 l1_0 l1_1 = some r) ∧ Aside0 (kq ≤ kj2) ∧ Aside0 (w'.heap[gb227]? = some (.cells #[(.slice A0_0 l0_0.length c0_0), (.slice A0_1 l0_1.length c0_1)] 27 (0, 0))) ∧ Aside0 (w'.heap[gb228]? = some (.cells #[(.slice A1_0 l1_0.length c1_0), (.slice A1_1 l1_1.length c1_1)] 27 (0, 0))) ∧ Aside0 (Below w.heap.size w w'))
    case atStart => exact ⟨(0), (by first | rfl | (simp; done) | (simp [*]; done)), H', ⟨Nat.le_refl _⟩, ⟨zb_ BK227⟩, ⟨zb_ BK228⟩, ⟨zw2_ HB GE227 GE228⟩⟩
    case round =>
     clear H'
     try clear c1
     try clear p2
     try clear c7
     try clear c8
     try clear c11
     try clear c14
     try clear hcz10_0
     try clear hcz10_1
     try clear hcz12_0
     try clear hcz12_1
     try clear hcz13_0
     try clear hcz13_1
     try clear hcz9_0
     try clear hcz9_1
     try clear hfz10_0
     try clear hfz10_1
     try clear hfz12_0
     try clear hfz12_1
     try clear hfz13_0
     try clear hfz13_1
     try clear hfz9_0
     try clear hfz9_1
     try clear p2
     obtain ⟨x5_2, rfl, HA, HK2, BK227, BK228, HB⟩ := hrel
     cases gk with
     | zero => exact absurd HA.out (by simp [carouselref5_Alike.l0])
     | succ k2 =>
      have H := HA.out
      clear HA
      simp only [carouselref5_Alike.l0] at H
      by_cases c15 : x5_2 < (l0_1.length : Int)
      ·rw [if_pos c15] at H
       have c15b0 : decide (x5_2 < (l0_1.length : Int)) = true := decide_eq_true c15
       clear c15
       by_cases c16 : 0 ≤ x5_2
       ·rw [if_pos c16] at H
        have c16b0 : decide (0 ≤ x5_2) = true := decide_eq_true c16
        clear c16
        by_cases c17 : x5_2 < (l1_1.length : Int)
        ·rw [if_pos c17] at H
         have c17b0 : decide (x5_2 < (l1_1.length : Int)) = true := decide_eq_true c17
         clear c17
         by_cases c18 : (rd l0_1 x5_2) = (rd l1_1 x5_2)
         ·rw [if_pos c18] at H
          have c18b0 : ((rd l0_1 x5_2) == (rd l1_1 x5_2)) = true := beq_iff_eq.mpr c18
          have c18b1 : ((rd l0_1 x5_2) != (rd l1_1 x5_2)) = false := bne_eq_false_iff_eq.mpr c18
          clear c18
          have H' := Aside0.mk H
          clear H
          have hnb19 := NB227_228.out
          have hnc19 := NB228_227.out
          have hcz20_0 := zx_ (v := .slice A0_0 l0_0.length c0_0) BK227 0
          have hcz20_1 := zx_ (v := .slice A0_1 l0_1.length c0_1) BK227 1
          have hfz20_0 := blk_frozen BK227.out 0
          have hfz20_1 := blk_frozen BK227.out 1
          have p230 : 0 ≤ (x5_2 : Int) := of_decide_eq_true (by first | (with_reducible assumption) | assumption)
          have q230 : x5_2 < (l0_1.length : Int) := of_decide_eq_true (by first | (with_reducible assumption) | assumption)
          obtain ⟨ad230, e230, hx230_0⟩ := Kd.at_int HR0_1.out x5_2 p230 q230
          cases e230
          replace hx230_0 := (HB.out.cell (World.block_lt_of_cell? w _ hx230_0)).trans hx230_0
          replace p230 := eq_true p230
          replace q230 := eq_true q230
          have hcz21_0 := zx_ (v := .slice A1_0 l1_0.length c1_0) BK228 0
          have hcz21_1 := zx_ (v := .slice A1_1 l1_1.length c1_1) BK228 1
          have hfz21_0 := blk_frozen BK228.out 0
          have hfz21_1 := blk_frozen BK228.out 1
          have p231 : 0 ≤ (x5_2 : Int) := of_decide_eq_true (by first | (with_reducible assumption) | assumption)
          have q231 : x5_2 < (l1_1.length : Int) := of_decide_eq_true (by first | (with_reducible assumption) | assumption)
          obtain ⟨ad231, e231, hx231_0⟩ := Kd.at_int HR1_1.out x5_2 p231 q231
          cases e231
          replace hx231_0 := (HB.out.cell (World.block_lt_of_cell? w _ hx231_0)).trans hx231_0
          replace p231 := eq_true p231
          replace q231 := eq_true q231
          go_wp2
          repeat (go_quiet (fail); try go_wp2)
          go_roundg k2
          case measure => have := HJ2.out; have := HK2.out; omega
          case rel => exact ⟨(wrap64 (x5_2 + 1)), (by first | rfl | (simp; done) | (simp [*]; done)), H', ⟨by have := HJ2.out; have := HK2.out; omega⟩, ⟨zb_ BK227⟩, ⟨zb_ BK228⟩, ⟨zw2_ HB GE227 GE228⟩⟩
         ·rw [if_neg c18] at H
          have c18b0 : ((rd l0_1 x5_2) == (rd l1_1 x5_2)) = false := beq_eq_false_iff_ne.mpr c18
          have c18b1 : ((rd l0_1 x5_2) != (rd l1_1 x5_2)) = true := bne_iff_ne.mpr c18
          obtain rfl := Option.some.inj H
          have hnb22 := NB227_228.out
          have hnc22 := NB228_227.out
          have hcz23_0 := zx_ (v := .slice A0_0 l0_0.length c0_0) BK227 0
          have hcz23_1 := zx_ (v := .slice A0_1 l0_1.length c0_1) BK227 1
          have hfz23_0 := blk_frozen BK227.out 0
          have hfz23_1 := blk_frozen BK227.out 1
          have p230 : 0 ≤ (x5_2 : Int) := of_decide_eq_true (by first | (with_reducible assumption) | assumption)
          have q230 : x5_2 < (l0_1.length : Int) := of_decide_eq_true (by first | (with_reducible assumption) | assumption)
          obtain ⟨ad230, e230, hx230_0⟩ := Kd.at_int HR0_1.out x5_2 p230 q230
          cases e230
          replace hx230_0 := (HB.out.cell (World.block_lt_of_cell? w _ hx230_0)).trans hx230_0
          replace p230 := eq_true p230
          replace q230 := eq_true q230
          have hcz24_0 := zx_ (v := .slice A1_0 l1_0.length c1_0) BK228 0
          have hcz24_1 := zx_ (v := .slice A1_1 l1_1.length c1_1) BK228 1
          have hfz24_0 := blk_frozen BK228.out 0
          have hfz24_1 := blk_frozen BK228.out 1
          have p231 : 0 ≤ (x5_2 : Int) := of_decide_eq_true (by first | (with_reducible assumption) | assumption)
          have q231 : x5_2 < (l1_1.length : Int) := of_decide_eq_true (by first | (with_reducible assumption) | assumption)
          obtain ⟨ad231, e231, hx231_0⟩ := Kd.at_int HR1_1.out x5_2 p231 q231
          cases e231
          replace hx231_0 := (HB.out.cell (World.block_lt_of_cell? w _ hx231_0)).trans hx231_0
          replace p231 := eq_true p231
          replace q231 := eq_true q231
          go_wp2
          repeat (go_quiet (fail); try go_wp2)
          go_ret
          exact ⟨by first | rfl | (simp [errW_none, errW_some] <;> rfl) | (simp [*, errW_none, errW_some] <;> rfl), zw2_ HB GE227 GE228⟩
        ·rw [if_neg c17] at H
         exact absurd H (by simp)
       ·rw [if_neg c16] at H
        exact absurd H (by simp)
      ·rw [if_neg c15] at H
       have c15b0 : decide (x5_2 < (l0_1.length : Int)) = false := decide_eq_false c15
       clear c15
       obtain rfl := Option.some.inj H
       have hnb25 := NB227_228.out
       have hnc25 := NB228_227.out
       have hcz26_0 := zx_ (v := .slice A0_0 l0_0.length c0_0) BK227 0
       have hcz26_1 := zx_ (v := .slice A0_1 l0_1.length c0_1) BK227 1
       have hfz26_0 := blk_frozen BK227.out 0
       have hfz26_1 := blk_frozen BK227.out 1
       go_wp2
       repeat (go_quiet (fail); try go_wp2)
       go_ret
       exact ⟨by first | rfl | (simp [errW_none, errW_some] <;> rfl) | (simp [*, errW_none, errW_some] <;> rfl), zw2_ HB GE227 GE228⟩

/-! ### carousellaw6_great: function 17 -/
def carousellaw6_great.f (l0_0 : List Int) (l0_1 : List Int) (a1 : Int) : Option (Bool) := if (l0_0.length : Int) > 10 then (some true) else (some (decide ((l0_1.length : Int) > a1)))
set_option maxHeartbeats 8000000 in
set_option maxRecDepth 100000 in
theorem carousellaw6_great.calls (A0_0 : Option Addr) (c0_0 : Nat) (l0_0 : List Int) (A0_1 : Option Addr) (c0_1 : Nat) (l0_1 : List Int) (a1 : Int) (r : Bool) (w : World) (hr0_0 : Kd.C (Kd.int .i64) w A0_0 l0_0.length l0_0) (hc0_0 : l0_0.length ≤ c0_0) (hr0_1 : Kd.C (Kd.int .i64) w A0_1 l0_1.length l0_1) (hc0_1 : l0_1.length ≤ c0_1) (h : carousellaw6_great.f l0_0 l0_1 a1 = some r) :
  Calls Try.prog 17 #[.agg #[.slice A0_0 l0_0.length c0_0, .slice A0_1 l0_1.length c0_1], .int .i64 a1] w fun e w' => e = .returned (.bool r) ∧ Below w.heap.size w w' := by
 have hu27 := Try.underlying27
 have HR0_0 := Aside0.mk hr0_0
 have HC0_0 := Aside0.mk hc0_0
 clear hr0_0 hc0_0
 have HR0_1 := Aside0.mk hr0_1
 have HC0_1 := Aside0.mk hc0_1
 clear hr0_1 hc0_1
 have HB := Aside0.mk (Below.refl w.heap.size w)
 have H : (if (l0_0.length : Int) > 10 then (some true) else (some (decide ((l0_1.length : Int) > a1)))) = some r := h
 clear h
 by_cases c3 : (l0_0.length : Int) > 10
 ·rw [if_pos c3] at H
  have c3b0 : decide (10 < (l0_0.length : Int)) = true := decide_eq_true c3
  have c3b1 : decide (10 < l0_0.length) = true := decide_eq_true (by omega)
  clear c3
  obtain rfl := Option.some.inj H
  go_enter Try.func17, Try.ntmps17
  go_wp2_with (first | ((with_reducible refine gate_dst (N := 2) rfl ?_); (try (refine gate_guard (by rfl) ?_; dsimp only)); refine box_event ?hg (N := 2) ?hd (cs := #[.slice A0_0 l0_0.length c0_0, .slice A0_1 l0_1.length c0_1]) (t := 27) ?hr ?_; (case hd => rfl); (case hg => rfl); (case hr => first | (go_simp; done) | (go_simp; rfl)); intro gb232 hg w4 hbox hb; have n0_ := Aside0.mk (below_step (zw0_ HB) hb); have n1_ := Aside0.mk (hbox); have n2_ := Aside0.mk (zs_ hg (zw0_ HB)); have n3_ := Aside0.mk (zs_ hg (zw0_ HB)); clear HB; have HB := n0_; have BK232 := n1_; have GW232 := n2_; have GE232 := n3_; clear n0_ n1_ n2_ n3_; clear hb hbox hg; have hcz5_0 := zx_ (v := .slice A0_0 l0_0.length c0_0) BK232 0; have hcz5_1 := zx_ (v := .slice A0_1 l0_1.length c0_1) BK232 1; have hfz5_0 := blk_frozen BK232.out 0; have hfz5_1 := blk_frozen BK232.out 1))
  go_ret
  exact ⟨by first | rfl | (simp [errW_none, errW_some] <;> rfl) | (simp [*, errW_none, errW_some] <;> rfl), zw1_ HB GE232⟩
 ·rw [if_neg c3] at H
  have c3b0 : decide (10 < (l0_0.length : Int)) = false := decide_eq_false c3
  have c3b1 : decide (10 < l0_0.length) = false := decide_eq_false (by omega)
  clear c3
  obtain rfl := Option.some.inj H
  go_enter Try.func17, Try.ntmps17
  go_wp2_with (first | ((with_reducible refine gate_dst (N := 2) rfl ?_); (try (refine gate_guard (by rfl) ?_; dsimp only)); refine box_event ?hg (N := 2) ?hd (cs := #[.slice A0_0 l0_0.length c0_0, .slice A0_1 l0_1.length c0_1]) (t := 27) ?hr ?_; (case hd => rfl); (case hg => rfl); (case hr => first | (go_simp; done) | (go_simp; rfl)); intro gb232 hg w6 hbox hb; have n0_ := Aside0.mk (below_step (zw0_ HB) hb); have n1_ := Aside0.mk (hbox); have n2_ := Aside0.mk (zs_ hg (zw0_ HB)); have n3_ := Aside0.mk (zs_ hg (zw0_ HB)); clear HB; have HB := n0_; have BK232 := n1_; have GW232 := n2_; have GE232 := n3_; clear n0_ n1_ n2_ n3_; clear hb hbox hg; have hcz7_0 := zx_ (v := .slice A0_0 l0_0.length c0_0) BK232 0; have hcz7_1 := zx_ (v := .slice A0_1 l0_1.length c0_1) BK232 1; have hfz7_0 := blk_frozen BK232.out 0; have hfz7_1 := blk_frozen BK232.out 1))
  go_ret
  exact ⟨by first | rfl | (simp [errW_none, errW_some] <;> rfl) | (simp [*, errW_none, errW_some] <;> rfl), zw1_ HB GE232⟩

/-! ### carouselref5_Good: function 13 -/
mutual
def carouselref5_Good.l0 : Nat → List Int → Int → Int → Option (Bool)
 | 0, _, _, _ => none
 | k + 1, x0, x3, x4 => if x4 < (x0.length : Int) then (if 0 ≤ x4 then (if (rd x0 x4) < 1 then (carouselref5_Good.j1 k x0 x3 x4 true) else (carouselref5_Good.j1 k x0 x3 x4 (decide ((rd x0 x4) > 4096)))) else (none)) else (some true)
def carouselref5_Good.j1 : Nat → List Int → Int → Int → Bool → Option (Bool)
 | 0, _, _, _, _ => none
 | k + 1, x0, x3, x4, x25 => if x25 = true then (some false) else (if 0 ≤ x4 then (if x4 < (x0.length : Int) then (if (wrap64 (x3 * (rd x0 x4))) > 4096 then (some false) else (carouselref5_Good.l0 k x0 (wrap64 (x3 * (rd x0 x4))) (wrap64 (x4 + 1)))) else (none)) else (none))
end
def carouselref5_Good.f (k : Nat) (l0 : List Int) : Option (Bool) := if (l0.length : Int) > 4 then (some false) else (carouselref5_Good.l0 k l0 1 0)
theorem carouselref5_Good.mono_l : ∀ k, (∀ y0 y1 y2, LeO (carouselref5_Good.l0 k y0 y1 y2) (carouselref5_Good.l0 (k + 1) y0 y1 y2)) ∧ (∀ y0 y1 y2 y3, LeO (carouselref5_Good.j1 k y0 y1 y2 y3) (carouselref5_Good.j1 (k + 1) y0 y1 y2 y3))
 | 0 => ⟨fun _ _ _ r h => by simp [carouselref5_Good.l0] at h, fun _ _ _ _ r h => by simp [carouselref5_Good.j1] at h⟩
 | k + 1 => by
  obtain ⟨ih0, ih1⟩ := carouselref5_Good.mono_l k
  refine ⟨?_, ?_⟩
  ·intro y0 y1 y2
   unfold carouselref5_Good.l0
   repeat' first
   | (with_reducible exact ih0 _ _ _)
   | (with_reducible exact ih1 _ _ _ _)
   | (with_reducible exact LeO.refl _)
   | (with_reducible exact LeO.none _)
   | (with_reducible refine LeO.ite ?_ ?_)
   | (with_reducible refine LeO.bind ?_ (fun _ => ?_))
   | exact ih0 _ _ _
   | exact ih1 _ _ _ _
   | exact LeO.none _
   | refine LeO.ite ?_ ?_
   | refine LeO.bind ?_ (fun _ => ?_)
  ·intro y0 y1 y2 y3
   unfold carouselref5_Good.j1
   repeat' first
   | (with_reducible exact ih0 _ _ _)
   | (with_reducible exact ih1 _ _ _ _)
   | (with_reducible exact LeO.refl _)
   | (with_reducible exact LeO.none _)
   | (with_reducible refine LeO.ite ?_ ?_)
   | (with_reducible refine LeO.bind ?_ (fun _ => ?_))
   | exact ih0 _ _ _
   | exact ih1 _ _ _ _
   | exact LeO.none _
   | refine LeO.ite ?_ ?_
   | refine LeO.bind ?_ (fun _ => ?_)
theorem carouselref5_Good.mono : ∀ a0 k, LeO (carouselref5_Good.f k a0) (carouselref5_Good.f (k + 1) a0) := by
 intro a0 k
 obtain ⟨ih0, ih1⟩ := carouselref5_Good.mono_l k
 unfold carouselref5_Good.f
 repeat' first
   | (with_reducible exact ih0 _ _ _)
   | (with_reducible exact ih1 _ _ _ _)
   | (with_reducible exact LeO.refl _)
   | (with_reducible exact LeO.none _)
   | (with_reducible refine LeO.ite ?_ ?_)
   | (with_reducible refine LeO.bind ?_ (fun _ => ?_))
   | exact ih0 _ _ _
   | exact ih1 _ _ _ _
   | exact LeO.none _
   | refine LeO.ite ?_ ?_
   | refine LeO.bind ?_ (fun _ => ?_)
set_option maxHeartbeats 8000000 in
set_option maxRecDepth 100000 in
theorem carouselref5_Good.calls (k : Nat) (A0 : Option Addr) (c0 : Nat) (l0 : List Int) (r : Bool) (w : World) (hr0 : Kd.C (Kd.int .i64) w A0 l0.length l0) (hc0 : l0.length ≤ c0) (h : carouselref5_Good.f k l0 = some r) :
  Calls Try.prog 13 #[.slice A0 l0.length c0] w fun e w' => e = .returned (.bool r) ∧ Drawn0 w w' := by
 have HR0 := Aside0.mk hr0
 have HC0 := Aside0.mk hc0
 clear hr0 hc0
 have H : (if (l0.length : Int) > 4 then (some false) else (carouselref5_Good.l0 k l0 1 0)) = some r := h
 clear h
 by_cases c2 : (l0.length : Int) > 4
 ·rw [if_pos c2] at H
  have c2b0 : decide (4 < (l0.length : Int)) = true := decide_eq_true c2
  have c2b1 : decide (4 < l0.length) = true := decide_eq_true (by omega)
  clear c2
  obtain rfl := Option.some.inj H
  go_enter Try.func13, Try.ntmps13
  go_wp2
  go_ret
  exact ⟨by first | rfl | (simp; done) | (simp [*]; done), by repeat (first | exact Drawn0.refl _ | apply Drawn0.step)⟩
 ·rw [if_neg c2] at H
  have c2b0 : decide (4 < (l0.length : Int)) = false := decide_eq_false c2
  have c2b1 : decide (4 < l0.length) = false := decide_eq_false (by omega)
  clear c2
  have H' := Aside0.mk H
  clear H
  go_enter Try.func13, Try.ntmps13
  go_wp2
  go_loopg [3, 4] k (fun kq v3 v4 w' => ∃ (x3_1 : Int) (x4_1 : Int), v3 = .int .i64 x3_1 ∧ v4 = .int .i64 x4_1 ∧ Aside0 (carouselref5_Good.l0 kq l0 x3_1 x4_1 = some r) ∧ Aside0 (kq ≤ k) ∧ Drawn0 w w')
  case atStart => exact ⟨(1), (0), (by first | rfl | (simp; done) | (simp [*]; done)), (by first | rfl | (simp; done) | (simp [*]; done)), H', ⟨Nat.le_refl _⟩, by repeat (first | exact Drawn0.refl _ | apply Drawn0.step)⟩
  case round =>
   clear H'
   try clear c1
   try clear c2
   try clear c2b0
   try clear c2b1
   try clear p2
   obtain ⟨x3_1, x4_1, rfl, rfl, HA, HK1, ⟨m1, rfl⟩⟩ := hrel
   cases gk with
   | zero => exact absurd HA.out (by simp [carouselref5_Good.l0])
   | succ k1 =>
    have H := HA.out
    clear HA
    simp only [carouselref5_Good.l0] at H
    by_cases c3 : x4_1 < (l0.length : Int)
    ·rw [if_pos c3] at H
     have c3b0 : decide (x4_1 < (l0.length : Int)) = true := decide_eq_true c3
     clear c3
     have HC4 := Aside0.mk H
     clear H
     go_upto_region 7 with (fail)
     go_cut [25] (fun v25 wc => ∃ (kq : Nat) (x25_3 : Bool), v25 = .bool x25_3 ∧ Aside0 (carouselref5_Good.j1 kq l0 x3_1 x4_1 x25_3 = some r) ∧ Aside0 (kq ≤ k1) ∧ Drawn0 w wc)
     case first =>
      have H := HC4.out
      clear HC4
      by_cases c5 : 0 ≤ x4_1
      ·rw [if_pos c5] at H
       have c5b0 : decide (0 ≤ x4_1) = true := decide_eq_true c5
       clear c5
       (first | rw [c5b0] | (simp only [i64_w, i32_w]; rw [c5b0]) | skip)
       by_cases c6 : (rd l0 x4_1) < 1
       ·rw [if_pos c6] at H
        have c6b0 : decide ((rd l0 x4_1) < 1) = true := decide_eq_true c6
        clear c6
        have H' := Aside0.mk H
        clear H
        have p233 : 0 ≤ (x4_1 : Int) := of_decide_eq_true (by first | (with_reducible assumption) | assumption)
        have q233 : x4_1 < (l0.length : Int) := of_decide_eq_true (by first | (with_reducible assumption) | assumption)
        obtain ⟨ad233, e233, hx233_0⟩ := Kd.at_int HR0.out x4_1 p233 q233
        cases e233
        replace p233 := eq_true p233
        replace q233 := eq_true q233
        go_wp2
        go_meet
        case rel => exact ⟨_, (true), (by first | rfl | (simp; done) | (simp [*]; done)), H', ⟨by have := HK1.out; first | omega | exact Nat.le_refl _⟩, by repeat (first | exact Drawn0.refl _ | apply Drawn0.step)⟩
       ·rw [if_neg c6] at H
        have c6b0 : decide ((rd l0 x4_1) < 1) = false := decide_eq_false c6
        clear c6
        have H' := Aside0.mk H
        clear H
        have p233 : 0 ≤ (x4_1 : Int) := of_decide_eq_true (by first | (with_reducible assumption) | assumption)
        have q233 : x4_1 < (l0.length : Int) := of_decide_eq_true (by first | (with_reducible assumption) | assumption)
        obtain ⟨ad233, e233, hx233_0⟩ := Kd.at_int HR0.out x4_1 p233 q233
        cases e233
        replace p233 := eq_true p233
        replace q233 := eq_true q233
        have p234 : 0 ≤ (x4_1 : Int) := of_decide_eq_true (by first | (with_reducible assumption) | assumption)
        have q234 : x4_1 < (l0.length : Int) := of_decide_eq_true (by first | (with_reducible assumption) | assumption)
        obtain ⟨ad234, e234, hx234_0⟩ := Kd.at_int HR0.out x4_1 p234 q234
        obtain rfl : ad233 = ad234 := (by injection e234)
        replace p234 := eq_true p234
        replace q234 := eq_true q234
        go_wp2
        go_meet
        case rel => exact ⟨_, (decide ((rd l0 x4_1) > 4096)), (by first | rfl | (simp; done) | (simp [*]; done)), H', ⟨by have := HK1.out; first | omega | exact Nat.le_refl _⟩, by repeat (first | exact Drawn0.refl _ | apply Drawn0.step)⟩
      ·rw [if_neg c5] at H
       exact absurd H (by simp)
     case rest =>
      clear HC4
      try clear c1
      try clear c2
      try clear c2b0
      try clear c2b1
      try clear p2
      try clear q2
      try clear hx2
      try clear c3
      try clear c3b0
      try clear c5
      try clear c5b0
      try clear c6
      try clear c6b0
      try clear hx233_0
      try clear hx234_0
      try clear p2
      try clear p233
      try clear p234
      try clear q233
      try clear q234
      obtain ⟨kq, x25_3, rfl, HA, HJ3, ⟨mc3, rfl⟩⟩ := hcut
      cases kq with
      | zero => exact absurd HA.out (by simp [carouselref5_Good.j1])
      | succ kj3 =>
       have H := HA.out
       clear HA
       simp only [carouselref5_Good.j1] at H
       by_cases c7 : x25_3 = true
       ·subst c7
        have H1 : (some false) = some r := by rw [if_pos rfl] at H; exact H
        clear H
        have H := H1
        clear H1
        obtain rfl := Option.some.inj H
        go_wp2
        go_ret
        exact ⟨by first | rfl | (simp; done) | (simp [*]; done), by repeat (first | exact Drawn0.refl _ | apply Drawn0.step)⟩
       ·replace c7 := Bool.eq_false_iff.mpr c7
        subst c7
        have H1 := H
        rw [if_neg (show ¬ (false = true) by decide)] at H1
        clear H
        have H := H1
        clear H1
        by_cases c8 : 0 ≤ x4_1
        ·rw [if_pos c8] at H
         have c8b0 : decide (0 ≤ x4_1) = true := decide_eq_true c8
         clear c8
         by_cases c9 : x4_1 < (l0.length : Int)
         ·rw [if_pos c9] at H
          have c9b0 : decide (x4_1 < (l0.length : Int)) = true := decide_eq_true c9
          clear c9
          by_cases c10 : (wrap64 (x3_1 * (rd l0 x4_1))) > 4096
          ·rw [if_pos c10] at H
           have c10b0 : decide (4096 < (wrap64 (x3_1 * (rd l0 x4_1)))) = true := decide_eq_true c10
           clear c10
           obtain rfl := Option.some.inj H
           have p235 : 0 ≤ (x4_1 : Int) := of_decide_eq_true (by first | (with_reducible assumption) | assumption)
           have q235 : x4_1 < (l0.length : Int) := of_decide_eq_true (by first | (with_reducible assumption) | assumption)
           obtain ⟨ad235, e235, hx235_0⟩ := Kd.at_int HR0.out x4_1 p235 q235
           cases e235
           replace p235 := eq_true p235
           replace q235 := eq_true q235
           go_wp2
           go_ret
           exact ⟨by first | rfl | (simp; done) | (simp [*]; done), by repeat (first | exact Drawn0.refl _ | apply Drawn0.step)⟩
          ·rw [if_neg c10] at H
           have c10b0 : decide (4096 < (wrap64 (x3_1 * (rd l0 x4_1)))) = false := decide_eq_false c10
           clear c10
           have H' := Aside0.mk H
           clear H
           have p235 : 0 ≤ (x4_1 : Int) := of_decide_eq_true (by first | (with_reducible assumption) | assumption)
           have q235 : x4_1 < (l0.length : Int) := of_decide_eq_true (by first | (with_reducible assumption) | assumption)
           obtain ⟨ad235, e235, hx235_0⟩ := Kd.at_int HR0.out x4_1 p235 q235
           cases e235
           replace p235 := eq_true p235
           replace q235 := eq_true q235
           go_wp2
           go_roundg kj3
           case measure => have := HK1.out; have := HJ3.out; omega
           case rel => exact ⟨(wrap64 (x3_1 * (rd l0 x4_1))), (wrap64 (x4_1 + 1)), (by first | rfl | (simp; done) | (simp [*]; done)), (by first | rfl | (simp; done) | (simp [*]; done)), H', ⟨by have := HK1.out; have := HJ3.out; omega⟩, by repeat (first | exact Drawn0.refl _ | apply Drawn0.step)⟩
         ·rw [if_neg c9] at H
          exact absurd H (by simp)
        ·rw [if_neg c8] at H
         exact absurd H (by simp)
    ·rw [if_neg c3] at H
     have c3b0 : decide (x4_1 < (l0.length : Int)) = false := decide_eq_false c3
     clear c3
     obtain rfl := Option.some.inj H
     go_wp2
     go_ret
     exact ⟨by first | rfl | (simp; done) | (simp [*]; done), by repeat (first | exact Drawn0.refl _ | apply Drawn0.step)⟩

/-! ### carouselref5_Size: function 38 -/
def carouselref5_Size.l0 : Nat → List Int → Int → Int → Option (Int)
 | 0, _, _, _ => none
 | k + 1, x0, x3, x4 => if x4 < (x0.length : Int) then (if 0 ≤ x4 then (carouselref5_Size.l0 k x0 (wrap64 (x3 * (rd x0 x4))) (wrap64 (x4 + 1))) else (none)) else (some x3)
def carouselref5_Size.f (k : Nat) (l0 : List Int) : Option (Int) := (carouselref5_Good.f k l0).bind fun t236 => (if t236 = true then (carouselref5_Size.l0 k l0 1 0) else (some 0))
theorem carouselref5_Size.mono_l : ∀ k, (∀ y0 y1 y2, LeO (carouselref5_Size.l0 k y0 y1 y2) (carouselref5_Size.l0 (k + 1) y0 y1 y2))
 | 0 => fun _ _ _ r h => by simp [carouselref5_Size.l0] at h
 | k + 1 => by
  have ih0 := carouselref5_Size.mono_l k
  ·intro y0 y1 y2
   unfold carouselref5_Size.l0
   repeat' first
   | (with_reducible exact ih0 _ _ _)
   | (with_reducible exact LeO.refl _)
   | (with_reducible exact LeO.none _)
   | (with_reducible refine LeO.ite ?_ ?_)
   | (with_reducible refine LeO.bind ?_ (fun _ => ?_))
   | exact ih0 _ _ _
   | exact LeO.none _
   | refine LeO.ite ?_ ?_
   | refine LeO.bind ?_ (fun _ => ?_)
theorem carouselref5_Size.mono : ∀ a0 k, LeO (carouselref5_Size.f k a0) (carouselref5_Size.f (k + 1) a0) := by
 intro a0 k
 have ih0 := carouselref5_Size.mono_l k
 unfold carouselref5_Size.f
 repeat' first
   | (with_reducible exact ih0 _ _ _)
   | (with_reducible exact carouselref5_Good.mono _ _)
   | (with_reducible exact LeO.refl _)
   | (with_reducible exact LeO.none _)
   | (with_reducible refine LeO.ite ?_ ?_)
   | (with_reducible refine LeO.bind ?_ (fun _ => ?_))
   | exact ih0 _ _ _
   | exact carouselref5_Good.mono _ _
   | exact LeO.none _
   | refine LeO.ite ?_ ?_
   | refine LeO.bind ?_ (fun _ => ?_)
set_option maxHeartbeats 8000000 in
set_option maxRecDepth 100000 in
theorem carouselref5_Size.calls (k : Nat) (A0 : Option Addr) (c0 : Nat) (l0 : List Int) (r : Int) (w : World) (hr0 : Kd.C (Kd.int .i64) w A0 l0.length l0) (hc0 : l0.length ≤ c0) (h : carouselref5_Size.f k l0 = some r) :
  Calls Try.prog 38 #[.slice A0 l0.length c0] w fun e w' => e = .returned (.int .i64 r) ∧ Drawn0 w w' := by
 have HR0 := Aside0.mk hr0
 have HC0 := Aside0.mk hc0
 clear hr0 hc0
 have H : ((carouselref5_Good.f k l0).bind fun t236 => (if t236 = true then (carouselref5_Size.l0 k l0 1 0) else (some 0))) = some r := h
 clear h
 replace H := Option.bind_eq_some_iff.mp H
 obtain ⟨t236, A20, H⟩ := H
 replace H : (if t236 = true then (carouselref5_Size.l0 k l0 1 0) else (some 0)) = some r := H
 have A2 := Aside0.mk A20
 clear A20
 by_cases c3 : t236 = true
 ·subst c3
  have H1 : (carouselref5_Size.l0 k l0 1 0) = some r := by rw [if_pos rfl] at H; exact H
  clear H
  have H := H1
  clear H1
  have H' := Aside0.mk H
  clear H
  go_enter Try.func38, Try.ntmps38
  go_wp2_with (first | ((with_reducible refine gate_callee (f := 13) rfl ?_); refine zg_ (some 6) Try.func13 #[.slice A0 l0.length c0] (h := ?_); (with_reducible refine (carouselref5_Good.calls k _ _ l0 true _ ?side1 ?side2 A2.out).mono ?_); (case side1 => repeat (first | exact HR0.out | (with_reducible refine Kd.C_alloc ?_ _) | (with_reducible refine Kd.C_drewN ?_ _) | (with_reducible refine Kd.C_drew ?_))); (case side2 => exact HC0.out); rintro e w' ⟨rfl, ⟨nd, rfl⟩⟩; refine ⟨_, rfl, ?_⟩))
  go_loopg [3, 4] k (fun kq v3 v4 w' => ∃ (x3_1 : Int) (x4_1 : Int), v3 = .int .i64 x3_1 ∧ v4 = .int .i64 x4_1 ∧ Aside0 (carouselref5_Size.l0 kq l0 x3_1 x4_1 = some r) ∧ Aside0 (kq ≤ k) ∧ Drawn0 w w')
  case atStart => exact ⟨(1), (0), (by first | rfl | (simp; done) | (simp [*]; done)), (by first | rfl | (simp; done) | (simp [*]; done)), H', ⟨Nat.le_refl _⟩, by repeat (first | exact Drawn0.refl _ | apply Drawn0.step)⟩
  case round =>
   clear H'
   try clear c1
   try clear p2
   try clear c3
   obtain ⟨x3_1, x4_1, rfl, rfl, HA, HK1, ⟨m1, rfl⟩⟩ := hrel
   cases gk with
   | zero => exact absurd HA.out (by simp [carouselref5_Size.l0])
   | succ k1 =>
    have H := HA.out
    clear HA
    simp only [carouselref5_Size.l0] at H
    by_cases c4 : x4_1 < (l0.length : Int)
    ·rw [if_pos c4] at H
     have c4b0 : decide (x4_1 < (l0.length : Int)) = true := decide_eq_true c4
     clear c4
     by_cases c5 : 0 ≤ x4_1
     ·rw [if_pos c5] at H
      have c5b0 : decide (0 ≤ x4_1) = true := decide_eq_true c5
      clear c5
      have H' := Aside0.mk H
      clear H
      have p237 : 0 ≤ (x4_1 : Int) := of_decide_eq_true (by first | (with_reducible assumption) | assumption)
      have q237 : x4_1 < (l0.length : Int) := of_decide_eq_true (by first | (with_reducible assumption) | assumption)
      obtain ⟨ad237, e237, hx237_0⟩ := Kd.at_int HR0.out x4_1 p237 q237
      cases e237
      replace p237 := eq_true p237
      replace q237 := eq_true q237
      go_wp2
      go_roundg k1
      case measure => have := HK1.out; omega
      case rel => exact ⟨(wrap64 (x3_1 * (rd l0 x4_1))), (wrap64 (x4_1 + 1)), (by first | rfl | (simp; done) | (simp [*]; done)), (by first | rfl | (simp; done) | (simp [*]; done)), H', ⟨by have := HK1.out; omega⟩, by repeat (first | exact Drawn0.refl _ | apply Drawn0.step)⟩
     ·rw [if_neg c5] at H
      exact absurd H (by simp)
    ·rw [if_neg c4] at H
     have c4b0 : decide (x4_1 < (l0.length : Int)) = false := decide_eq_false c4
     clear c4
     obtain rfl := Option.some.inj H
     go_wp2
     go_ret
     exact ⟨by first | rfl | (simp; done) | (simp [*]; done), by repeat (first | exact Drawn0.refl _ | apply Drawn0.step)⟩
 ·replace c3 := Bool.eq_false_iff.mpr c3
  subst c3
  have H1 : (some 0) = some r := by rw [if_neg (show ¬ (false = true) by decide)] at H; exact H
  clear H
  have H := H1
  clear H1
  obtain rfl := Option.some.inj H
  go_enter Try.func38, Try.ntmps38
  go_wp2_with (first | ((with_reducible refine gate_callee (f := 13) rfl ?_); refine zg_ (some 6) Try.func13 #[.slice A0 l0.length c0] (h := ?_); (with_reducible refine (carouselref5_Good.calls k _ _ l0 false _ ?side1 ?side2 A2.out).mono ?_); (case side1 => repeat (first | exact HR0.out | (with_reducible refine Kd.C_alloc ?_ _) | (with_reducible refine Kd.C_drewN ?_ _) | (with_reducible refine Kd.C_drew ?_))); (case side2 => exact HC0.out); rintro e w' ⟨rfl, ⟨nd, rfl⟩⟩; refine ⟨_, rfl, ?_⟩))
  go_ret
  exact ⟨by first | rfl | (simp; done) | (simp [*]; done), by repeat (first | exact Drawn0.refl _ | apply Drawn0.step)⟩

/-! ### carouselref5_Is: function 18 -/
def carouselref5_Is.f (k : Nat) (l0_0 : List Int) (l0_1 : List Int) : Option (Bool) := (carouselref5_Good.f k l0_0).bind fun t239 => (if t239 = true then ((carouselref5_Size.f k l0_0).bind fun t240 => (some ((l0_1.length : Int) == t240))) else (some false))
theorem carouselref5_Is.mono : ∀ a0 a1 k, LeO (carouselref5_Is.f k a0 a1) (carouselref5_Is.f (k + 1) a0 a1) := by
 intro a0 a1 k
 unfold carouselref5_Is.f
 repeat' first
   | (with_reducible exact carouselref5_Good.mono _ _)
   | (with_reducible exact carouselref5_Size.mono _ _)
   | (with_reducible exact LeO.refl _)
   | (with_reducible exact LeO.none _)
   | (with_reducible refine LeO.ite ?_ ?_)
   | (with_reducible refine LeO.bind ?_ (fun _ => ?_))
   | exact carouselref5_Good.mono _ _
   | exact carouselref5_Size.mono _ _
   | exact LeO.none _
   | refine LeO.ite ?_ ?_
   | refine LeO.bind ?_ (fun _ => ?_)
set_option maxHeartbeats 8000000 in
set_option maxRecDepth 100000 in
theorem carouselref5_Is.calls (k : Nat) (A0_0 : Option Addr) (c0_0 : Nat) (l0_0 : List Int) (A0_1 : Option Addr) (c0_1 : Nat) (l0_1 : List Int) (r : Bool) (w : World) (hr0_0 : Kd.C (Kd.int .i64) w A0_0 l0_0.length l0_0) (hc0_0 : l0_0.length ≤ c0_0) (hr0_1 : Kd.C (Kd.int .i64) w A0_1 l0_1.length l0_1) (hc0_1 : l0_1.length ≤ c0_1) (h : carouselref5_Is.f k l0_0 l0_1 = some r) :
  Calls Try.prog 18 #[.agg #[.slice A0_0 l0_0.length c0_0, .slice A0_1 l0_1.length c0_1]] w fun e w' => e = .returned (.bool r) ∧ Below w.heap.size w w' := by
 have hu27 := Try.underlying27
 have HR0_0 := Aside0.mk hr0_0
 have HC0_0 := Aside0.mk hc0_0
 clear hr0_0 hc0_0
 have HR0_1 := Aside0.mk hr0_1
 have HC0_1 := Aside0.mk hc0_1
 clear hr0_1 hc0_1
 have HB := Aside0.mk (Below.refl w.heap.size w)
 have H : ((carouselref5_Good.f k l0_0).bind fun t239 => (if t239 = true then ((carouselref5_Size.f k l0_0).bind fun t240 => (some ((l0_1.length : Int) == t240))) else (some false))) = some r := h
 clear h
 replace H := Option.bind_eq_some_iff.mp H
 obtain ⟨t239, A20, H⟩ := H
 replace H : (if t239 = true then ((carouselref5_Size.f k l0_0).bind fun t240 => (some ((l0_1.length : Int) == t240))) else (some false)) = some r := H
 have A2 := Aside0.mk A20
 clear A20
 by_cases c3 : t239 = true
 ·subst c3
  have H1 : ((carouselref5_Size.f k l0_0).bind fun t240 => (some ((l0_1.length : Int) == t240))) = some r := by rw [if_pos rfl] at H; exact H
  clear H
  have H := H1
  clear H1
  replace H := Option.bind_eq_some_iff.mp H
  obtain ⟨t240, A40, H⟩ := H
  replace H : (some ((l0_1.length : Int) == t240)) = some r := H
  have A4 := Aside0.mk A40
  clear A40
  obtain rfl := Option.some.inj H
  go_enter Try.func18, Try.ntmps18
  go_wp2_with (first | ((with_reducible refine gate_dst (N := 1) rfl ?_); (try (refine gate_guard (by rfl) ?_; dsimp only)); refine box_event ?hg (N := 1) ?hd (cs := #[.slice A0_0 l0_0.length c0_0, .slice A0_1 l0_1.length c0_1]) (t := 27) ?hr ?_; (case hd => rfl); (case hg => rfl); (case hr => first | (go_simp; done) | (go_simp; rfl)); intro gb238 hg w5 hbox hb; have n0_ := Aside0.mk (below_step (zw0_ HB) hb); have n1_ := Aside0.mk (hbox); have n2_ := Aside0.mk (zs_ hg (zw0_ HB)); have n3_ := Aside0.mk (zs_ hg (zw0_ HB)); clear HB; have HB := n0_; have BK238 := n1_; have GW238 := n2_; have GE238 := n3_; clear n0_ n1_ n2_ n3_; clear hb hbox hg; have hcz6_0 := zx_ (v := .slice A0_0 l0_0.length c0_0) BK238 0; have hcz6_1 := zx_ (v := .slice A0_1 l0_1.length c0_1) BK238 1; have hfz6_0 := blk_frozen BK238.out 0; have hfz6_1 := blk_frozen BK238.out 1) | (go_at_call 13; (with_reducible refine (carouselref5_Good.calls k _ _ l0_0 true _ ?side1 ?side2 A2.out).mono ?_); (case side1 => exact zk_ (Kd.C_below HR0_0.out HB.out)); (case side2 => exact HC0_0.out); rintro e w' ⟨rfl, ⟨nd, rfl⟩⟩; (try first | exact ⟨rfl, _, World.drewN_drewN _ _ _⟩ | exact ⟨rfl, _, Eq.trans (World.drewN_drewN _ _ _) (congrArg (World.drewN _) (Nat.add_assoc _ _ _))⟩)) | (go_at_call 38; (with_reducible refine (carouselref5_Size.calls k _ _ l0_0 t240 _ ?side1 ?side2 A4.out).mono ?_); (case side1 => repeat (first | exact (Kd.C_below HR0_0.out (zw1_ HB GE238)) | (with_reducible refine Kd.C_alloc ?_ _) | (with_reducible refine Kd.C_drewN ?_ _) | (with_reducible refine Kd.C_drew ?_))); (case side2 => exact HC0_0.out); rintro e w' ⟨rfl, ⟨nd, rfl⟩⟩; (try first | exact ⟨rfl, _, World.drewN_drewN _ _ _⟩ | exact ⟨rfl, _, Eq.trans (World.drewN_drewN _ _ _) (congrArg (World.drewN _) (Nat.add_assoc _ _ _))⟩)))
  repeat (go_quiet (first | ((with_reducible refine gate_dst (N := 1) rfl ?_); (try (refine gate_guard (by rfl) ?_; dsimp only)); refine box_event ?hg (N := 1) ?hd (cs := #[.slice A0_0 l0_0.length c0_0, .slice A0_1 l0_1.length c0_1]) (t := 27) ?hr ?_; (case hd => rfl); (case hg => rfl); (case hr => first | (go_simp; done) | (go_simp; rfl)); intro gb238 hg w5 hbox hb; have n0_ := Aside0.mk (below_step (zw0_ HB) hb); have n1_ := Aside0.mk (hbox); have n2_ := Aside0.mk (zs_ hg (zw0_ HB)); have n3_ := Aside0.mk (zs_ hg (zw0_ HB)); clear HB; have HB := n0_; have BK238 := n1_; have GW238 := n2_; have GE238 := n3_; clear n0_ n1_ n2_ n3_; clear hb hbox hg; have hcz6_0 := zx_ (v := .slice A0_0 l0_0.length c0_0) BK238 0; have hcz6_1 := zx_ (v := .slice A0_1 l0_1.length c0_1) BK238 1; have hfz6_0 := blk_frozen BK238.out 0; have hfz6_1 := blk_frozen BK238.out 1) | (go_at_call 13; (with_reducible refine (carouselref5_Good.calls k _ _ l0_0 true _ ?side1 ?side2 A2.out).mono ?_); (case side1 => exact zk_ (Kd.C_below HR0_0.out HB.out)); (case side2 => exact HC0_0.out); rintro e w' ⟨rfl, ⟨nd, rfl⟩⟩; (try first | exact ⟨rfl, _, World.drewN_drewN _ _ _⟩ | exact ⟨rfl, _, Eq.trans (World.drewN_drewN _ _ _) (congrArg (World.drewN _) (Nat.add_assoc _ _ _))⟩)) | (go_at_call 38; (with_reducible refine (carouselref5_Size.calls k _ _ l0_0 t240 _ ?side1 ?side2 A4.out).mono ?_); (case side1 => repeat (first | exact (Kd.C_below HR0_0.out (zw1_ HB GE238)) | (with_reducible refine Kd.C_alloc ?_ _) | (with_reducible refine Kd.C_drewN ?_ _) | (with_reducible refine Kd.C_drew ?_))); (case side2 => exact HC0_0.out); rintro e w' ⟨rfl, ⟨nd, rfl⟩⟩; (try first | exact ⟨rfl, _, World.drewN_drewN _ _ _⟩ | exact ⟨rfl, _, Eq.trans (World.drewN_drewN _ _ _) (congrArg (World.drewN _) (Nat.add_assoc _ _ _))⟩))); try go_wp2_with (first | ((with_reducible refine gate_dst (N := 1) rfl ?_); (try (refine gate_guard (by rfl) ?_; dsimp only)); refine box_event ?hg (N := 1) ?hd (cs := #[.slice A0_0 l0_0.length c0_0, .slice A0_1 l0_1.length c0_1]) (t := 27) ?hr ?_; (case hd => rfl); (case hg => rfl); (case hr => first | (go_simp; done) | (go_simp; rfl)); intro gb238 hg w5 hbox hb; have n0_ := Aside0.mk (below_step (zw0_ HB) hb); have n1_ := Aside0.mk (hbox); have n2_ := Aside0.mk (zs_ hg (zw0_ HB)); have n3_ := Aside0.mk (zs_ hg (zw0_ HB)); clear HB; have HB := n0_; have BK238 := n1_; have GW238 := n2_; have GE238 := n3_; clear n0_ n1_ n2_ n3_; clear hb hbox hg; have hcz6_0 := zx_ (v := .slice A0_0 l0_0.length c0_0) BK238 0; have hcz6_1 := zx_ (v := .slice A0_1 l0_1.length c0_1) BK238 1; have hfz6_0 := blk_frozen BK238.out 0; have hfz6_1 := blk_frozen BK238.out 1) | (go_at_call 13; (with_reducible refine (carouselref5_Good.calls k _ _ l0_0 true _ ?side1 ?side2 A2.out).mono ?_); (case side1 => exact zk_ (Kd.C_below HR0_0.out HB.out)); (case side2 => exact HC0_0.out); rintro e w' ⟨rfl, ⟨nd, rfl⟩⟩; (try first | exact ⟨rfl, _, World.drewN_drewN _ _ _⟩ | exact ⟨rfl, _, Eq.trans (World.drewN_drewN _ _ _) (congrArg (World.drewN _) (Nat.add_assoc _ _ _))⟩)) | (go_at_call 38; (with_reducible refine (carouselref5_Size.calls k _ _ l0_0 t240 _ ?side1 ?side2 A4.out).mono ?_); (case side1 => repeat (first | exact (Kd.C_below HR0_0.out (zw1_ HB GE238)) | (with_reducible refine Kd.C_alloc ?_ _) | (with_reducible refine Kd.C_drewN ?_ _) | (with_reducible refine Kd.C_drew ?_))); (case side2 => exact HC0_0.out); rintro e w' ⟨rfl, ⟨nd, rfl⟩⟩; (try first | exact ⟨rfl, _, World.drewN_drewN _ _ _⟩ | exact ⟨rfl, _, Eq.trans (World.drewN_drewN _ _ _) (congrArg (World.drewN _) (Nat.add_assoc _ _ _))⟩))))
  go_ret
  exact ⟨by first | rfl | (simp [errW_none, errW_some] <;> rfl) | (simp [*, errW_none, errW_some] <;> rfl), zw1_ HB GE238⟩
 ·replace c3 := Bool.eq_false_iff.mpr c3
  subst c3
  have H1 : (some false) = some r := by rw [if_neg (show ¬ (false = true) by decide)] at H; exact H
  clear H
  have H := H1
  clear H1
  obtain rfl := Option.some.inj H
  go_enter Try.func18, Try.ntmps18
  go_wp2_with (first | ((with_reducible refine gate_dst (N := 1) rfl ?_); (try (refine gate_guard (by rfl) ?_; dsimp only)); refine box_event ?hg (N := 1) ?hd (cs := #[.slice A0_0 l0_0.length c0_0, .slice A0_1 l0_1.length c0_1]) (t := 27) ?hr ?_; (case hd => rfl); (case hg => rfl); (case hr => first | (go_simp; done) | (go_simp; rfl)); intro gb238 hg w7 hbox hb; have n0_ := Aside0.mk (below_step (zw0_ HB) hb); have n1_ := Aside0.mk (hbox); have n2_ := Aside0.mk (zs_ hg (zw0_ HB)); have n3_ := Aside0.mk (zs_ hg (zw0_ HB)); clear HB; have HB := n0_; have BK238 := n1_; have GW238 := n2_; have GE238 := n3_; clear n0_ n1_ n2_ n3_; clear hb hbox hg; have hcz8_0 := zx_ (v := .slice A0_0 l0_0.length c0_0) BK238 0; have hcz8_1 := zx_ (v := .slice A0_1 l0_1.length c0_1) BK238 1; have hfz8_0 := blk_frozen BK238.out 0; have hfz8_1 := blk_frozen BK238.out 1) | (go_at_call 13; (with_reducible refine (carouselref5_Good.calls k _ _ l0_0 false _ ?side1 ?side2 A2.out).mono ?_); (case side1 => exact zk_ (Kd.C_below HR0_0.out HB.out)); (case side2 => exact HC0_0.out); rintro e w' ⟨rfl, ⟨nd, rfl⟩⟩; (try first | exact ⟨rfl, _, World.drewN_drewN _ _ _⟩ | exact ⟨rfl, _, Eq.trans (World.drewN_drewN _ _ _) (congrArg (World.drewN _) (Nat.add_assoc _ _ _))⟩)))
  repeat (go_quiet (first | ((with_reducible refine gate_dst (N := 1) rfl ?_); (try (refine gate_guard (by rfl) ?_; dsimp only)); refine box_event ?hg (N := 1) ?hd (cs := #[.slice A0_0 l0_0.length c0_0, .slice A0_1 l0_1.length c0_1]) (t := 27) ?hr ?_; (case hd => rfl); (case hg => rfl); (case hr => first | (go_simp; done) | (go_simp; rfl)); intro gb238 hg w7 hbox hb; have n0_ := Aside0.mk (below_step (zw0_ HB) hb); have n1_ := Aside0.mk (hbox); have n2_ := Aside0.mk (zs_ hg (zw0_ HB)); have n3_ := Aside0.mk (zs_ hg (zw0_ HB)); clear HB; have HB := n0_; have BK238 := n1_; have GW238 := n2_; have GE238 := n3_; clear n0_ n1_ n2_ n3_; clear hb hbox hg; have hcz8_0 := zx_ (v := .slice A0_0 l0_0.length c0_0) BK238 0; have hcz8_1 := zx_ (v := .slice A0_1 l0_1.length c0_1) BK238 1; have hfz8_0 := blk_frozen BK238.out 0; have hfz8_1 := blk_frozen BK238.out 1) | (go_at_call 13; (with_reducible refine (carouselref5_Good.calls k _ _ l0_0 false _ ?side1 ?side2 A2.out).mono ?_); (case side1 => exact zk_ (Kd.C_below HR0_0.out HB.out)); (case side2 => exact HC0_0.out); rintro e w' ⟨rfl, ⟨nd, rfl⟩⟩; (try first | exact ⟨rfl, _, World.drewN_drewN _ _ _⟩ | exact ⟨rfl, _, Eq.trans (World.drewN_drewN _ _ _) (congrArg (World.drewN _) (Nat.add_assoc _ _ _))⟩))); try go_wp2_with (first | ((with_reducible refine gate_dst (N := 1) rfl ?_); (try (refine gate_guard (by rfl) ?_; dsimp only)); refine box_event ?hg (N := 1) ?hd (cs := #[.slice A0_0 l0_0.length c0_0, .slice A0_1 l0_1.length c0_1]) (t := 27) ?hr ?_; (case hd => rfl); (case hg => rfl); (case hr => first | (go_simp; done) | (go_simp; rfl)); intro gb238 hg w7 hbox hb; have n0_ := Aside0.mk (below_step (zw0_ HB) hb); have n1_ := Aside0.mk (hbox); have n2_ := Aside0.mk (zs_ hg (zw0_ HB)); have n3_ := Aside0.mk (zs_ hg (zw0_ HB)); clear HB; have HB := n0_; have BK238 := n1_; have GW238 := n2_; have GE238 := n3_; clear n0_ n1_ n2_ n3_; clear hb hbox hg; have hcz8_0 := zx_ (v := .slice A0_0 l0_0.length c0_0) BK238 0; have hcz8_1 := zx_ (v := .slice A0_1 l0_1.length c0_1) BK238 1; have hfz8_0 := blk_frozen BK238.out 0; have hfz8_1 := blk_frozen BK238.out 1) | (go_at_call 13; (with_reducible refine (carouselref5_Good.calls k _ _ l0_0 false _ ?side1 ?side2 A2.out).mono ?_); (case side1 => exact zk_ (Kd.C_below HR0_0.out HB.out)); (case side2 => exact HC0_0.out); rintro e w' ⟨rfl, ⟨nd, rfl⟩⟩; (try first | exact ⟨rfl, _, World.drewN_drewN _ _ _⟩ | exact ⟨rfl, _, Eq.trans (World.drewN_drewN _ _ _) (congrArg (World.drewN _) (Nat.add_assoc _ _ _))⟩))))
  go_ret
  exact ⟨by first | rfl | (simp [errW_none, errW_some] <;> rfl) | (simp [*, errW_none, errW_some] <;> rfl), zw1_ HB GE238⟩

/-! ### fix_size: function 63 -/
def fix_size.f (a0 : Int) : Option (Int) := if a0 < 0 then (some (IntKind.u64.wrap (-(IntKind.u64.wrap (a0))))) else (some (IntKind.u64.wrap (a0)))
set_option maxHeartbeats 8000000 in
set_option maxRecDepth 100000 in
theorem fix_size.calls (a0 : Int) (r : Int) (w : World) (h : fix_size.f a0 = some r) :
  Calls Try.prog 63 #[.int .i64 a0] w fun e w' => e = .returned (.int .u64 r) ∧ Drawn0 w w' := by
 have H : (if a0 < 0 then (some (IntKind.u64.wrap (-(IntKind.u64.wrap (a0))))) else (some (IntKind.u64.wrap (a0)))) = some r := h
 clear h
 by_cases c2 : a0 < 0
 ·rw [if_pos c2] at H
  have c2b0 : decide (a0 < 0) = true := decide_eq_true c2
  clear c2
  obtain rfl := Option.some.inj H
  go_enter Try.func63, Try.ntmps63
  go_wp2
  go_ret
  exact ⟨by first | rfl | (simp; done) | (simp [*]; done), by repeat (first | exact Drawn0.refl _ | apply Drawn0.step)⟩
 ·rw [if_neg c2] at H
  have c2b0 : decide (a0 < 0) = false := decide_eq_false c2
  clear c2
  obtain rfl := Option.some.inj H
  go_enter Try.func63, Try.ntmps63
  go_wp2
  go_ret
  exact ⟨by first | rfl | (simp; done) | (simp [*]; done), by repeat (first | exact Drawn0.refl _ | apply Drawn0.step)⟩

/-- A call of a function without a body that the model answers itself. -/
def XCalls (P : Program) (f : FuncId) (args : Array Value) (w : World) (R : Ending → World → Prop) : Prop :=
 ∃ v, (callFunc f args).run P w = .ok (.value v) w ∧ R (.returned v) w
theorem XCalls.mono {P : Program} {f : FuncId} {args : Array Value} {w : World} {R R' : Ending → World → Prop} (h : XCalls P f args w R) (k : ∀ e w', R e w' → R' e w') : XCalls P f args w R' := by
 obtain ⟨v, h1, h2⟩ := h
 exact ⟨v, h1, k _ _ h2⟩
theorem goesX_ {P : Program} {ops : Array Oper} {Q : Exit → Act → World → Prop} {rest : List Oper} {oi : Oper} {a : Act} {w : World} (N : Option Tmp) (hd : oi.dst = N) (hg : oi.guard = none) {f : FuncId} {xs : Array Operand} {ts : Array TypeId} (args : Array Value)
  (hop : oi.op = .call { callee := .value (.func f), args := xs, argTypes := ts }) (hargs : xs.map a.eval = args)
  (h : XCalls P f args w fun e w' => ∃ v, e = .returned v ∧ wpList P ops Q rest (a.put N v) w') : wpList P ops Q (oi :: rest) a w := by
 obtain ⟨v, h1, v', h2, h3⟩ := h
 cases h2
 refine Kd.event_run hg ?_ (by rw [hd]; exact h3)
 unfold execOp
 simp [hop, resolve, Deferred.ofValue, invoke, Act.eval, hargs, h1]
/-! ### bits_Add64: function 64 -/
def bits_Add64.f (a0 a1 a2 : Int) : Option (Int × Int) := if 0 ≤ a0 ∧ 0 ≤ a1 ∧ 0 ≤ a2 ∧ a2 ≤ 1 then some ((a0 + a1 + a2) % 18446744073709551616, (a0 + a1 + a2) / 18446744073709551616) else none
theorem bits_Add64.calls (a0 a1 a2 r1 r2 : Int) (w : World) (h : bits_Add64.f a0 a1 a2 = some (r1, r2)) :
  XCalls Try.prog 64 #[.int .u64 a0, .int .u64 a1, .int .u64 a2] w fun e w' => e = .returned (.tuple #[.int .u64 r1, .int .u64 r2]) ∧ Drawn0 w w' := by
 unfold bits_Add64.f at h
 split at h
 ·rename_i hc
  simp only [Option.some.injEq, Prod.mk.injEq] at h
  obtain ⟨rfl, rfl⟩ := h
  refine ⟨_, ?_, rfl, Drawn0.refl _⟩
  rw [run_callFunc_extern (e := add64Entry) Try.func64 rfl (by kernel_rfl) (by kernel_rfl) (by kernel_rfl), run_add64 a0 a1 a2 hc.1 hc.2.1 hc.2.2.1 hc.2.2.2]
  rfl
 ·cases h

end Go.Proofs.Ytbdhabpplidgfaa.PTensEach
