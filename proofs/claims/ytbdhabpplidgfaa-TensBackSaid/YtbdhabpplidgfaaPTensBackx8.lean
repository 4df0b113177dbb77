/- The functions that the law TensBack reaches, as Lean functions, and that each call of the Go function does what its Lean function says, wherever that one answers. Written by a program of mine over the print of the kit; Lean checks it. -/
import Derived.Test.YtbdhabpplidgfaaPTensBackx0
import Derived.Test.YtbdhabpplidgfaaPTensBackx1
import Derived.Test.YtbdhabpplidgfaaPTensBackx6
import Derived.Test.YtbdhabpplidgfaaPTensBackx7
namespace Go.Proofs.Ytbdhabpplidgfaa.PTensBack
open Go.RowKit Go.Proofs.YtbdhabpplidgfaaW.PrintWords Go.Proofs.YtbdhabpplidgfaaW.PrintLast Go.Proofs.YtbdhabpplidgfaaW.PrintMore
attribute [local go_sem] max2_int min2_int max_two min_two max_three min_three max_four min_four   -- for this text's walks alone
set_option linter.unusedVariables false
set_option linter.unusedSimpArgs false

/-! ### tens_Turn: function 25 -/
mutual
def tens_Turn.j0 : Nat → List Int → Bool → List Int → List Int → Option (List Int × List Int × Int)
 | 0, _, _, _, _ => none
 | k + 1, x1, x29, x252000, x252001 => if x29 = true then (some (([] : List Int), ([] : List Int), 1)) else (if 0 ≤ (x1.length : Int) then (if ((x1.length : Int) : Int).toNat ≤ 35184372088832 then (tens_Turn.l0 k x1 (List.replicate ((x1.length : Int) : Int).toNat 0) x1 (x1.length : Int) 0 x252000 x252001) else (none)) else (none))
def tens_Turn.l0 : Nat → List Int → List Int → List Int → Int → Int → List Int → List Int → Option (List Int × List Int × Int)
 | 0, _, _, _, _, _, _, _ => none
 | k + 1, x1, x6, x34, x35, x36, x252000, x252001 => if x36 < x35 then (if 0 ≤ x36 then (if x36 < (x34.length : Int) then (if 0 ≤ (rd x34 x36) then (if (rd x34 x36) < (x252000.length : Int) then (if x36 < (x6.length : Int) then (tens_Turn.l0 k x1 (x6.set (x36 : Int).toNat (rd x252000 (rd x34 x36))) x34 x35 (wrap64 (x36 + 1)) x252000 x252001) else (none)) else (none)) else (none)) else (none)) else (none)) else ((tens_New.f k x6 0).bind fun bt261 => (tens_Turn.l1 k x1 x6 (bt261.2.1.length : Int) 0 x252000 x252001 bt261.1 bt261.2.1))
def tens_Turn.l1 : Nat → List Int → List Int → Int → Int → List Int → List Int → List Int → List Int → Option (List Int × List Int × Int)
 | 0, _, _, _, _, _, _, _, _ => none
 | k + 1, x1, x6, x57, x58, x252000, x252001, x269000, x269001 => if x58 < x57 then ((shape_Place.f k x6 x58).bind fun bt269 => (if 0 ≤ (x1.length : Int) then (if ((x1.length : Int) : Int).toNat ≤ 35184372088832 then (tens_Turn.l2 k x1 x6 x58 bt269.1 (List.replicate ((x1.length : Int) : Int).toNat 0) x57 x58 x1 (x1.length : Int) 0 x252000 x252001 x269000 x269001) else (none)) else (none))) else (some (x269000, x269001, 0))
def tens_Turn.l2 : Nat → List Int → List Int → Int → List Int → List Int → Int → Int → List Int → Int → Int → List Int → List Int → List Int → List Int → Option (List Int × List Int × Int)
 | 0, _, _, _, _, _, _, _, _, _, _, _, _, _, _ => none
 | k + 1, x1, x6, x11, x12, x14, x57, x58, x70, x71, x72, x252000, x252001, x269000, x269001 => if x72 < x71 then (if 0 ≤ x72 then (if x72 < (x70.length : Int) then (if x72 < (x12.length : Int) then (if 0 ≤ (rd x70 x72) then (if (rd x70 x72) < (x14.length : Int) then (tens_Turn.l2 k x1 x6 x11 x12 (x14.set ((rd x70 x72) : Int).toNat (rd x12 x72)) x57 x58 x70 x71 (wrap64 (x72 + 1)) x252000 x252001 x269000 x269001) else (none)) else (none)) else (none)) else (none)) else (none)) else ((shape_At.f k x252000 x14).bind fun bt279 => (if 0 ≤ bt279.1 then (if bt279.1 < (x252001.length : Int) then (if 0 ≤ x11 then (if x11 < (x269001.length : Int) then (tens_Turn.l1 k x1 x6 x57 (wrap64 (x58 + 1)) x252000 x252001 x269000 (x269001.set (x11 : Int).toNat (rd x252001 bt279.1))) else (none)) else (none)) else (none)) else (none)))
end
def tens_Turn.f (k : Nat) (l0_0 : List Int) (l0_1 : List Int) (l1 : List Int) : Option (List Int × List Int × Int) := (tens_Good.f k l0_0 l0_1).bind fun t253 => (if t253 = true then ((tens_permutes.f k l1 (l0_0.length : Int)).bind fun t254 => (tens_Turn.j0 k l1 (!t254) l0_0 l0_1)) else (tens_Turn.j0 k l1 true l0_0 l0_1))
theorem tens_Turn.mono_l : ∀ k, (∀ y0 y1 y2 y3, LeO (tens_Turn.j0 k y0 y1 y2 y3) (tens_Turn.j0 (k + 1) y0 y1 y2 y3)) ∧ (∀ y0 y1 y2 y3 y4 y5 y6, LeO (tens_Turn.l0 k y0 y1 y2 y3 y4 y5 y6) (tens_Turn.l0 (k + 1) y0 y1 y2 y3 y4 y5 y6)) ∧ (∀ y0 y1 y2 y3 y4 y5 y6 y7, LeO (tens_Turn.l1 k y0 y1 y2 y3 y4 y5 y6 y7) (tens_Turn.l1 (k + 1) y0 y1 y2 y3 y4 y5 y6 y7)) ∧ (∀ y0 y1 y2 y3 y4 y5 y6 y7 y8 y9 y10 y11 y12 y13, LeO (tens_Turn.l2 k y0 y1 y2 y3 y4 y5 y6 y7 y8 y9 y10 y11 y12 y13) (tens_Turn.l2 (k + 1) y0 y1 y2 y3 y4 y5 y6 y7 y8 y9 y10 y11 y12 y13))
 | 0 => ⟨fun _ _ _ _ r h => by simp [tens_Turn.j0] at h, fun _ _ _ _ _ _ _ r h => by simp [tens_Turn.l0] at h, fun _ _ _ _ _ _ _ _ r h => by simp [tens_Turn.l1] at h, fun _ _ _ _ _ _ _ _ _ _ _ _ _ _ r h => by simp [tens_Turn.l2] at h⟩
 | k + 1 => by
  obtain ⟨ih0, ih1, ih2, ih3⟩ := tens_Turn.mono_l k
  refine ⟨?_, ?_, ?_, ?_⟩
  ·intro y0 y1 y2 y3
   unfold tens_Turn.j0
   repeat' first
   | (with_reducible exact ih0 _ _ _ _)
   | (with_reducible exact ih1 _ _ _ _ _ _ _)
   | (with_reducible exact ih2 _ _ _ _ _ _ _ _)
   | (with_reducible exact ih3 _ _ _ _ _ _ _ _ _ _ _ _ _ _)
   | (with_reducible exact LeO.refl _)
   | (with_reducible exact LeO.none _)
   | (with_reducible refine LeO.ite ?_ ?_)
   | (with_reducible refine LeO.bind ?_ (fun _ => ?_))
   | exact ih0 _ _ _ _
   | exact ih1 _ _ _ _ _ _ _
   | exact ih2 _ _ _ _ _ _ _ _
   | exact ih3 _ _ _ _ _ _ _ _ _ _ _ _ _ _
   | exact LeO.none _
   | refine LeO.ite ?_ ?_
   | refine LeO.bind ?_ (fun _ => ?_)
  ·intro y0 y1 y2 y3 y4 y5 y6
   unfold tens_Turn.l0
   repeat' first
   | (with_reducible exact ih0 _ _ _ _)
   | (with_reducible exact ih1 _ _ _ _ _ _ _)
   | (with_reducible exact ih2 _ _ _ _ _ _ _ _)
   | (with_reducible exact ih3 _ _ _ _ _ _ _ _ _ _ _ _ _ _)
   | (with_reducible exact tens_New.mono _ _ _)
   | (with_reducible exact LeO.refl _)
   | (with_reducible exact LeO.none _)
   | (with_reducible refine LeO.ite ?_ ?_)
   | (with_reducible refine LeO.bind ?_ (fun _ => ?_))
   | exact ih0 _ _ _ _
   | exact ih1 _ _ _ _ _ _ _
   | exact ih2 _ _ _ _ _ _ _ _
   | exact ih3 _ _ _ _ _ _ _ _ _ _ _ _ _ _
   | exact tens_New.mono _ _ _
   | exact LeO.none _
   | refine LeO.ite ?_ ?_
   | refine LeO.bind ?_ (fun _ => ?_)
  ·intro y0 y1 y2 y3 y4 y5 y6 y7
   unfold tens_Turn.l1
   repeat' first
   | (with_reducible exact ih0 _ _ _ _)
   | (with_reducible exact ih1 _ _ _ _ _ _ _)
   | (with_reducible exact ih2 _ _ _ _ _ _ _ _)
   | (with_reducible exact ih3 _ _ _ _ _ _ _ _ _ _ _ _ _ _)
   | (with_reducible exact shape_Place.mono _ _ _)
   | (with_reducible exact LeO.refl _)
   | (with_reducible exact LeO.none _)
   | (with_reducible refine LeO.ite ?_ ?_)
   | (with_reducible refine LeO.bind ?_ (fun _ => ?_))
   | exact ih0 _ _ _ _
   | exact ih1 _ _ _ _ _ _ _
   | exact ih2 _ _ _ _ _ _ _ _
   | exact ih3 _ _ _ _ _ _ _ _ _ _ _ _ _ _
   | exact shape_Place.mono _ _ _
   | exact LeO.none _
   | refine LeO.ite ?_ ?_
   | refine LeO.bind ?_ (fun _ => ?_)
  ·intro y0 y1 y2 y3 y4 y5 y6 y7 y8 y9 y10 y11 y12 y13
   unfold tens_Turn.l2
   repeat' first
   | (with_reducible exact ih0 _ _ _ _)
   | (with_reducible exact ih1 _ _ _ _ _ _ _)
   | (with_reducible exact ih2 _ _ _ _ _ _ _ _)
   | (with_reducible exact ih3 _ _ _ _ _ _ _ _ _ _ _ _ _ _)
   | (with_reducible exact shape_At.mono _ _ _)
   | (with_reducible exact LeO.refl _)
   | (with_reducible exact LeO.none _)
   | (with_reducible refine LeO.ite ?_ ?_)
   | (with_reducible refine LeO.bind ?_ (fun _ => ?_))
   | exact ih0 _ _ _ _
   | exact ih1 _ _ _ _ _ _ _
   | exact ih2 _ _ _ _ _ _ _ _
   | exact ih3 _ _ _ _ _ _ _ _ _ _ _ _ _ _
   | exact shape_At.mono _ _ _
   | exact LeO.none _
   | refine LeO.ite ?_ ?_
   | refine LeO.bind ?_ (fun _ => ?_)
theorem tens_Turn.mono : ∀ a0 a1 a2 k, LeO (tens_Turn.f k a0 a1 a2) (tens_Turn.f (k + 1) a0 a1 a2) := by
 intro a0 a1 a2 k
 obtain ⟨ih0, ih1, ih2, ih3⟩ := tens_Turn.mono_l k
 unfold tens_Turn.f
 repeat' first
   | (with_reducible exact ih0 _ _ _ _)
   | (with_reducible exact ih1 _ _ _ _ _ _ _)
   | (with_reducible exact ih2 _ _ _ _ _ _ _ _)
   | (with_reducible exact ih3 _ _ _ _ _ _ _ _ _ _ _ _ _ _)
   | (with_reducible exact tens_Good.mono _ _ _)
   | (with_reducible exact tens_permutes.mono _ _ _)
   | (with_reducible exact LeO.refl _)
   | (with_reducible exact LeO.none _)
   | (with_reducible refine LeO.ite ?_ ?_)
   | (with_reducible refine LeO.bind ?_ (fun _ => ?_))
   | exact ih0 _ _ _ _
   | exact ih1 _ _ _ _ _ _ _
   | exact ih2 _ _ _ _ _ _ _ _
   | exact ih3 _ _ _ _ _ _ _ _ _ _ _ _ _ _
   | exact tens_Good.mono _ _ _
   | exact tens_permutes.mono _ _ _
   | exact LeO.none _
   | refine LeO.ite ?_ ?_
   | refine LeO.bind ?_ (fun _ => ?_)
def tens_Turn.T21 : Bool × List (List Nat × List Nat) := (true, [([], []), ([0], [0]), ([], []), ([], []), ([3], [3]), ([], []), ([4, 5], [4, 5]), ([6], [6]), ([1, 2, 0, 1, 2, 3, 4, 5, 6, 7], [1, 2]), ([8, 7, 0, 1, 2, 3, 4, 5, 6, 7], [7, 8])])
def tens_Turn.B21 : List Nat := [0, 1, 0, 0, 8, 0, 56, 120, 255, 511]
theorem tens_Turn.tab21 : rtab .any (opsOf Try.f25 21) = tens_Turn.T21 := by kernel_rfl
theorem tens_Turn.bits21 : waitsOk tens_Turn.T21.2 tens_Turn.B21 = true := by kernel_rfl
set_option maxHeartbeats 8000000 in
set_option maxRecDepth 100000 in
theorem tens_Turn.calls (k : Nat) (A0_0 : Option Addr) (c0_0 : Nat) (l0_0 : List Int) (A0_1 : Option Addr) (c0_1 : Nat) (l0_1 : List Int) (A1 : Option Addr) (c1 : Nat) (l1 : List Int) (r1 : List Int) (r2 : List Int) (r3 : Int) (w : World) (hr0_0 : Kd.C (Kd.int .i64) w A0_0 l0_0.length l0_0) (hc0_0 : l0_0.length ≤ c0_0) (hr0_1 : Kd.C (Kd.int .i64) w A0_1 l0_1.length l0_1) (hc0_1 : l0_1.length ≤ c0_1) (hr1 : Kd.C (Kd.int .i64) w A1 l1.length l1) (hc1 : l1.length ≤ c1) (h : tens_Turn.f k l0_0 l0_1 l1 = some (r1, r2, r3)) :
  Calls Try.prog 25 #[.agg #[.slice A0_0 l0_0.length c0_0, .slice A0_1 l0_1.length c0_1], .slice A1 l1.length c1] w fun e w' => ∃ v0_ v1_ : Value, e = .returned (.tuple #[.agg #[v0_, v1_], .int .i64 r3]) ∧ Kd.R (Kd.int .i64) 3 w' w.heap.size (fun _ => True) v0_ r1 ∧ Kd.R (Kd.int .i64) 23 w' w.heap.size (fun _ => True) v1_ r2 ∧ Below w.heap.size w w' := by
 have hu27 := Try.underlying27
 have HR0_0 := Aside0.mk hr0_0
 have HC0_0 := Aside0.mk hc0_0
 clear hr0_0 hc0_0
 have HR0_1 := Aside0.mk hr0_1
 have HC0_1 := Aside0.mk hc0_1
 clear hr0_1 hc0_1
 have HR1 := Aside0.mk hr1
 have HC1 := Aside0.mk hc1
 clear hr1 hc1
 have HB := Aside0.mk (Below.refl w.heap.size w)
 have H : ((tens_Good.f k l0_0 l0_1).bind fun t253 => (if t253 = true then ((tens_permutes.f k l1 (l0_0.length : Int)).bind fun t254 => (tens_Turn.j0 k l1 (!t254) l0_0 l0_1)) else (tens_Turn.j0 k l1 true l0_0 l0_1))) = some (r1, r2, r3) := h
 clear h
 have HC3 := Aside0.mk H
 clear H
 go_enter Try.func25, Try.ntmps25
 go_upto_region 1 with (first | ((with_reducible refine gate_dst (N := 2) rfl ?_); (try (refine gate_guard (by rfl) ?_; dsimp only)); refine box_event ?hg (N := 2) ?hd (cs := #[.slice A0_0 l0_0.length c0_0, .slice A0_1 l0_1.length c0_1]) (t := 27) ?hr ?_; (case hd => rfl); (case hg => rfl); (case hr => first | (go_simp; done) | (go_simp; rfl)); intro gb251 hg w4 hbox hb; have n0_ := Aside0.mk (below_step (zw0_ HB) hb); have n1_ := Aside0.mk (hbox); have n2_ := Aside0.mk (zs_ hg (zw0_ HB)); have n3_ := Aside0.mk (zs_ hg (zw0_ HB)); clear HB; have HB := n0_; have BK251 := n1_; have GW251 := n2_; have GE251 := n3_; clear n0_ n1_ n2_ n3_; clear hb hbox hg) | ((with_reducible refine gate_dst (N := 4) rfl ?_); (try (refine gate_guard (by rfl) ?_; dsimp only)); refine box_event ?hg (N := 4) ?hd (cs := #[.slice none 0 0, .slice none 0 0]) (t := 27) ?hr ?_; (case hd => rfl); (case hg => rfl); (case hr => first | (go_simp; done) | (go_simp; rfl)); intro gb252 hg w5 hbox hb; have n0_ := Aside0.mk (zl_ BK251 hb); have n1_ := Aside0.mk (below_step (zw1_ HB GE251) hb); have n2_ := Aside0.mk (hbox); have n3_ := Aside0.mk (zs_ hg (zw1_ HB GE251)); have n4_ := Aside0.mk (zs_ hg (zw1_ HB GE251)); have n5_ := Aside0.mk (zn_ hg BK251); have n6_ := Aside0.mk (zm_ hg BK251); clear BK251 HB; have BK251 := n0_; have HB := n1_; have BK252 := n2_; have GW252 := n3_; have GE252 := n4_; have NB251_252 := n5_; have NB252_251 := n6_; clear n0_ n1_ n2_ n3_ n4_ n5_ n6_; clear hb hbox hg))
 (try simp only [Act.put, List.setIfInBounds_toArray, List.set_cons_zero, List.set_cons_succ])
 go_cut [29] (fun v29 wc => ∃ (kq : Nat) (x29_2 : Bool), v29 = .bool x29_2 ∧ Aside0 (tens_Turn.j0 kq l1 x29_2 l0_0 l0_1 = some (r1, r2, r3)) ∧ Aside0 (kq ≤ k) ∧ Aside0 (wc.heap[gb251]? = some (.cells #[(.slice A0_0 l0_0.length c0_0), (.slice A0_1 l0_1.length c0_1)] 27 (0, 0))) ∧ Aside0 (wc.heap[gb252]? = some (.cells #[(.slice none 0 0), (.slice none 0 0)] 27 (0, 0))) ∧ Aside0 (Below w.heap.size w wc))
 case first =>
  have H := HC3.out
  clear HC3
  replace H := Option.bind_eq_some_iff.mp H
  obtain ⟨t253, A60, H⟩ := H
  (try dsimp only at H)
  have A6 := Aside0.mk A60
  clear A60
  by_cases c7 : t253 = true
  ·subst c7
   have H1 := H
   rw [if_pos rfl] at H1
   clear H
   have H := H1
   clear H1
   replace H := Option.bind_eq_some_iff.mp H
   obtain ⟨t254, A80, H⟩ := H
   replace H : (tens_Turn.j0 k l1 (!t254) l0_0 l0_1) = some (r1, r2, r3) := H
   have A8 := Aside0.mk A80
   clear A80
   have H' := Aside0.mk H
   clear H
   have hnb9 := NB251_252.out
   have hnc9 := NB252_251.out
   have hcz10_0 := zx_ (v := .slice A0_0 l0_0.length c0_0) BK251 0
   have hcz10_1 := zx_ (v := .slice A0_1 l0_1.length c0_1) BK251 1
   have hfz10_0 := blk_frozen BK251.out 0
   have hfz10_1 := blk_frozen BK251.out 1
   go_wp2_with (first | ((with_reducible refine gate_callee (f := 16) rfl ?_); refine zg_ (some 20) Try.func16 #[.agg #[.slice A0_0 l0_0.length c0_0, .slice A0_1 l0_1.length c0_1]] (h := ?_); (with_reducible refine (tens_Good.calls k _ _ l0_0 _ _ l0_1 true _ ?side1 ?side2 ?side3 ?side4 A6.out).mono ?_); (case side1 => exact zk_ (Kd.C_below HR0_0.out HB.out)); (case side2 => exact HC0_0.out); (case side3 => exact zk_ (Kd.C_below HR0_1.out HB.out)); (case side4 => exact HC0_1.out); rintro e w11 ⟨rfl, hb⟩; refine ⟨_, rfl, ?_⟩; have n0_ := Aside0.mk (zl_ BK251 hb); have n1_ := Aside0.mk (zl_ BK252 hb); have n2_ := Aside0.mk (below_step (zw2_ HB GE251 GE252) hb); clear BK251 BK252 HB; have BK251 := n0_; have BK252 := n1_; have HB := n2_; clear n0_ n1_ n2_; (try clear hb); (try clear hb2); (try clear hk); (try clear hi); have hcz12_0 := zx_ (v := .slice A0_0 l0_0.length c0_0) BK251 0; have hcz12_1 := zx_ (v := .slice A0_1 l0_1.length c0_1) BK251 1; have hfz12_0 := blk_frozen BK251.out 0; have hfz12_1 := blk_frozen BK251.out 1) | (go_at_call 51; (with_reducible refine (tens_permutes.calls k _ _ l1 (l0_0.length : Int) t254 _ ?side1 ?side2 A8.out).mono ?_); (case side1 => exact zk_ (Kd.C_below HR1.out HB.out)); (case side2 => exact HC1.out); rintro e w' ⟨rfl, ⟨nd, rfl⟩⟩))
   go_meet
   case rel => exact ⟨_, (!t254), (by first | rfl | (simp; done) | (simp [*]; done)), H', ⟨by first | omega | exact Nat.le_refl _⟩, ⟨zb_ BK251⟩, ⟨zb_ BK252⟩, ⟨zw2_ HB GE251 GE252⟩⟩
  ·replace c7 := Bool.eq_false_iff.mpr c7
   subst c7
   have H1 : (tens_Turn.j0 k l1 true l0_0 l0_1) = some (r1, r2, r3) := by rw [if_neg (show ¬ (false = true) by decide)] at H; exact H
   clear H
   have H := H1
   clear H1
   have H' := Aside0.mk H
   clear H
   have hnb13 := NB251_252.out
   have hnc13 := NB252_251.out
   have hcz14_0 := zx_ (v := .slice A0_0 l0_0.length c0_0) BK251 0
   have hcz14_1 := zx_ (v := .slice A0_1 l0_1.length c0_1) BK251 1
   have hfz14_0 := blk_frozen BK251.out 0
   have hfz14_1 := blk_frozen BK251.out 1
   go_wp2_with (first | ((with_reducible refine gate_callee (f := 16) rfl ?_); refine zg_ (some 20) Try.func16 #[.agg #[.slice A0_0 l0_0.length c0_0, .slice A0_1 l0_1.length c0_1]] (h := ?_); (with_reducible refine (tens_Good.calls k _ _ l0_0 _ _ l0_1 false _ ?side1 ?side2 ?side3 ?side4 A6.out).mono ?_); (case side1 => exact zk_ (Kd.C_below HR0_0.out HB.out)); (case side2 => exact HC0_0.out); (case side3 => exact zk_ (Kd.C_below HR0_1.out HB.out)); (case side4 => exact HC0_1.out); rintro e w15 ⟨rfl, hb⟩; refine ⟨_, rfl, ?_⟩; have n0_ := Aside0.mk (zl_ BK251 hb); have n1_ := Aside0.mk (zl_ BK252 hb); have n2_ := Aside0.mk (below_step (zw2_ HB GE251 GE252) hb); clear BK251 BK252 HB; have BK251 := n0_; have BK252 := n1_; have HB := n2_; clear n0_ n1_ n2_; (try clear hb); (try clear hb2); (try clear hk); (try clear hi)))
   go_meet
   case rel => exact ⟨_, (true), (by first | rfl | (simp; done) | (simp [*]; done)), H', ⟨by first | omega | exact Nat.le_refl _⟩, ⟨zb_ BK251⟩, ⟨zb_ BK252⟩, ⟨zw2_ HB GE251 GE252⟩⟩
 case rest =>
  clear HC3
  try clear c1
  try clear c2
  try clear p2
  try clear c7
  try clear c9
  try clear c13
  try clear hcz10_0
  try clear hcz10_1
  try clear hcz12_0
  try clear hcz12_1
  try clear hcz14_0
  try clear hcz14_1
  try clear hfz10_0
  try clear hfz10_1
  try clear hfz12_0
  try clear hfz12_1
  try clear hfz14_0
  try clear hfz14_1
  obtain ⟨kq, x29_2, rfl, HA, HJ2, BK251, BK252, HB⟩ := hcut
  cases kq with
  | zero => exact absurd HA.out (by simp [tens_Turn.j0])
  | succ kj2 =>
   have H := HA.out
   clear HA
   simp only [tens_Turn.j0] at H
   by_cases c16 : x29_2 = true
   ·subst c16
    have H1 : (some (([] : List Int), ([] : List Int), 1)) = some (r1, r2, r3) := by rw [if_pos rfl] at H; exact H
    clear H
    have H := H1
    clear H1
    simp only [Option.some.injEq, Prod.mk.injEq] at H
    obtain ⟨rfl, rfl, rfl⟩ := H
    have hnb17 := NB252_251.out
    have hnc17 := NB251_252.out
    have hcz18_0 := zx_ (v := .slice none 0 0) BK252 0
    have hcz18_1 := zx_ (v := .slice none 0 0) BK252 1
    have hfz18_0 := blk_frozen BK252.out 0
    have hfz18_1 := blk_frozen BK252.out 1
    go_wp2
    refine bodyPost_ret (results_ct rfl _ _ gb252 27 #[.slice none 0 0, .slice none 0 0] (0, 0) _ rfl (by (with_reducible repeat (first | refine blk_drewN ?_ _ | refine blk_drew ?_ | refine blk_alloc ?_ _)); refine blk_put (cs := #[.slice none 0 0, .slice none 0 0]) ?_ 1 _ rfl; (with_reducible repeat (first | refine blk_drewN ?_ _ | refine blk_drew ?_ | refine blk_alloc ?_ _)); refine blk_put (cs := #[.slice none 0 0, .slice none 0 0]) ?_ 0 _ rfl; (with_reducible repeat (first | refine blk_drewN ?_ _ | refine blk_drew ?_ | refine blk_alloc ?_ _)); exact BK252.out) Try.underlying27 rfl (by kernel_rfl)) rfl ?_
    exact ⟨_, _, by first | rfl | (simp [errW_none, errW_some] <;> rfl) | (simp [*, errW_none, errW_some] <;> rfl), by first | exact Kd.R_nil _ _ _ _ _ | exact Kd.N_nil _ _ _ _ _ | exact Kd.V_nil _ _ _ _ _ | exact Kd.Q_nil _ _ _ _ _ | exact Kd.S_nil _ _ _ _ _, by first | exact Kd.R_nil _ _ _ _ _ | exact Kd.N_nil _ _ _ _ _ | exact Kd.V_nil _ _ _ _ _ | exact Kd.Q_nil _ _ _ _ _ | exact Kd.S_nil _ _ _ _ _, zw2_ HB GE251 GE252⟩
   ·replace c16 := Bool.eq_false_iff.mpr c16
    subst c16
    have H1 := H
    rw [if_neg (show ¬ (false = true) by decide)] at H1
    clear H
    have H := H1
    clear H1
    by_cases c19 : 0 ≤ (l1.length : Int)
    ·rw [if_pos c19] at H
     have c19b0 := eq_true c19
     have c19b1 : decide (0 ≤ (l1.length : Int)) = true := decide_eq_true c19
     clear c19
     by_cases c20 : ((l1.length : Int) : Int).toNat ≤ 35184372088832
     ·rw [if_pos c20] at H
      have c20b0 := eq_true c20
      have c20b1 : decide (((l1.length : Int) : Int).toNat ≤ 35184372088832) = true := decide_eq_true c20
      clear c20
      obtain ⟨y255, hy255⟩ : ∃ y_ : List Int, y_ = (List.replicate ((l1.length : Int) : Int).toNat 0) := ⟨_, rfl⟩
      replace H : (tens_Turn.l0 kj2 l1 y255 l1 (l1.length : Int) 0 l0_0 l0_1) = some (r1, r2, r3) := by first | (rw [hy255]; with_reducible exact H) | (have H2_ := (Option.bind_some _ _).symm.trans H; rw [hy255]; with_reducible exact H2_) | (have H2_ := (Option.bind_some _ _).symm.trans H; with_reducible exact H2_) | with_reducible exact H | (rw [hy255]; exact H) | exact H
      have Ny255 := Aside0.mk hy255
      clear hy255
      have H' := Aside0.mk H
      clear H
      go_wp2_with (first | ((with_reducible refine gate_dst (N := 33) rfl ?_); (try (refine gate_guard (by rfl) ?_; dsimp only)); refine Kd.R_make (Kd.int .i64) _ 3 rfl (N := 33) rfl 22 _ _ rfl (l1.length : Int) rfl rfl Try.underlying22 (.int .i64 0) 8 info3 rfl (by decide) (by omega) 0 (ok := fun _ => True) (okp := fun _ => True) rfl (fun _ hk => hk) trivial (of_decide_eq_true (by first | (with_reducible assumption) | assumption)) (Nat.le_trans (Nat.mul_le_mul_right _ (of_decide_eq_true (by first | (with_reducible assumption) | assumption) : (l1.length : Int).toNat ≤ 35184372088832)) (by omega)) (Below.refl _ _) (Nat.le_refl _) ?_; intro v256 w21 ho22 hb hg_ hnew_; clear hg_ hnew_; (first | rw [← Ny255.out] at ho22 | (simp only [Int.reduceToNat] at ho22; rw [← Ny255.out] at ho22)); have n0_ := Aside0.mk (Kd.R_lower ho22 (below_size (zw2_ HB GE251 GE252))); have n1_ := Aside0.mk (zl_ BK251 hb); have n2_ := Aside0.mk (zl_ BK252 hb); have n3_ := Aside0.mk (below_step (zw2_ HB GE251 GE252) hb); clear BK251 BK252 HB; have HO257 := n0_; have BK251 := n1_; have BK252 := n2_; have HB := n3_; clear n0_ n1_ n2_ n3_; clear hb ho22))
      go_loopg [36] kj2 (fun kq v36 w' => ∃ (x6_2 : List Int) (x36_2 : Int), v36 = .int .i64 x36_2 ∧ Aside0 (tens_Turn.l0 kq l1 x6_2 l1 (l1.length : Int) x36_2 l0_0 l0_1 = some (r1, r2, r3)) ∧ Aside0 (kq ≤ kj2) ∧ Aside0 (Kd.R (Kd.int .i64) 3 w' w.heap.size (fun _ => True) v256 x6_2) ∧ Aside0 (w'.heap[gb251]? = some (.cells #[(.slice A0_0 l0_0.length c0_0), (.slice A0_1 l0_1.length c0_1)] 27 (0, 0))) ∧ Aside0 (w'.heap[gb252]? = some (.cells #[(.slice none 0 0), (.slice none 0 0)] 27 (0, 0))) ∧ Aside0 (Below w.heap.size w w'))
      case atStart => exact ⟨(y255), (0), (by first | rfl | (simp; done) | (simp [*]; done)), H', ⟨Nat.le_refl _⟩, ⟨zr_ HO257.out⟩, ⟨zb_ BK251⟩, ⟨zb_ BK252⟩, ⟨zw2_ HB GE251 GE252⟩⟩
      case round =>
       clear H'
       try clear c1
       try clear c2
       try clear p2
       try clear c7
       try clear c9
       try clear c13
       try clear c16
       try clear c17
       try clear c19
       try clear c19b0
       try clear c19b1
       try clear c20
       try clear c20b0
       try clear c20b1
       try clear hcz10_0
       try clear hcz10_1
       try clear hcz12_0
       try clear hcz12_1
       try clear hcz14_0
       try clear hcz14_1
       try clear hcz18_0
       try clear hcz18_1
       try clear hfz10_0
       try clear hfz10_1
       try clear hfz12_0
       try clear hfz12_1
       try clear hfz14_0
       try clear hfz14_1
       try clear hfz18_0
       try clear hfz18_1
       try clear p2
       obtain ⟨x6_2, x36_2, rfl, HA, HK2, HO_6, BK251, BK252, HB⟩ := hrel
       cases gk with
       | zero => exact absurd HA.out (by simp [tens_Turn.l0])
       | succ k2 =>
        have H := HA.out
        clear HA
        simp only [tens_Turn.l0] at H
        by_cases c23 : x36_2 < (l1.length : Int)
        ·rw [if_pos c23] at H
         have c23b0 : decide (x36_2 < (l1.length : Int)) = true := decide_eq_true c23
         clear c23
         by_cases c24 : 0 ≤ x36_2
         ·rw [if_pos c24] at H
          have c24b0 : decide (0 ≤ x36_2) = true := decide_eq_true c24
          clear c24
          by_cases c25 : x36_2 < (l1.length : Int)
          ·rw [if_pos c25] at H
           have c25b0 : decide (x36_2 < (l1.length : Int)) = true := decide_eq_true c25
           clear c25
           by_cases c26 : 0 ≤ (rd l1 x36_2)
           ·rw [if_pos c26] at H
            have c26b0 : decide (0 ≤ (rd l1 x36_2)) = true := decide_eq_true c26
            clear c26
            by_cases c27 : (rd l1 x36_2) < (l0_0.length : Int)
            ·rw [if_pos c27] at H
             have c27b0 : decide ((rd l1 x36_2) < (l0_0.length : Int)) = true := decide_eq_true c27
             clear c27
             by_cases c28 : x36_2 < (x6_2.length : Int)
             ·rw [if_pos c28] at H
              have c28b0 : decide (x36_2 < (x6_2.length : Int)) = true := decide_eq_true c28
              clear c28
              obtain ⟨y260, hy260⟩ : ∃ y_ : List Int, y_ = (x6_2.set (x36_2 : Int).toNat (rd l0_0 (rd l1 x36_2))) := ⟨_, rfl⟩
              replace H : (tens_Turn.l0 k2 l1 y260 l1 (l1.length : Int) (wrap64 (x36_2 + 1)) l0_0 l0_1) = some (r1, r2, r3) := by first | (rw [hy260]; with_reducible exact H) | (have H2_ := (Option.bind_some _ _).symm.trans H; rw [hy260]; with_reducible exact H2_) | (have H2_ := (Option.bind_some _ _).symm.trans H; with_reducible exact H2_) | with_reducible exact H | (rw [hy260]; exact H) | exact H
              have Ny260 := Aside0.mk hy260
              clear hy260
              have H' := Aside0.mk H
              clear H
              have p258 : 0 ≤ (x36_2 : Int) := of_decide_eq_true (by first | (with_reducible assumption) | assumption)
              have q258 : x36_2 < (l1.length : Int) := of_decide_eq_true (by first | (with_reducible assumption) | assumption)
              obtain ⟨ad258, e258, hx258_0⟩ := Kd.at_int HR1.out x36_2 p258 q258
              cases e258
              replace hx258_0 := (HB.out.cell (World.block_lt_of_cell? w _ hx258_0)).trans hx258_0
              replace p258 := eq_true p258
              replace q258 := eq_true q258
              have hnb30 := NB251_252.out
              have hnc30 := NB252_251.out
              have hcz31_0 := zx_ (v := .slice A0_0 l0_0.length c0_0) BK251 0
              have hcz31_1 := zx_ (v := .slice A0_1 l0_1.length c0_1) BK251 1
              have hfz31_0 := blk_frozen BK251.out 0
              have hfz31_1 := blk_frozen BK251.out 1
              have p259 : 0 ≤ ((rd l1 x36_2) : Int) := of_decide_eq_true (by first | (with_reducible assumption) | assumption)
              have q259 : (rd l1 x36_2) < (l0_0.length : Int) := of_decide_eq_true (by first | (with_reducible assumption) | assumption)
              obtain ⟨ad259, e259, hx259_0⟩ := Kd.at_int HR0_0.out (rd l1 x36_2) p259 q259
              cases e259
              replace hx259_0 := (HB.out.cell (World.block_lt_of_cell? w _ hx259_0)).trans hx259_0
              replace p259 := eq_true p259
              replace q259 := eq_true q259
              have p29 : 0 ≤ (x36_2 : Int) := of_decide_eq_true (by first | (with_reducible assumption) | assumption)
              have q29 : (x36_2 : Int) < ((x6_2.length : Int) : Int) := of_decide_eq_true (by first | (with_reducible assumption) | assumption)
              obtain ⟨go29, co29, eo29, gb29, gl29, cl29, HG29⟩ := Kd.R_form HO_6.out (by omega)
              (first | cases eo29 | (injection eo29 with ea_ en_ ec_; (first | subst ea_ | (injection ea_ with ea_; subst ea_)); subst ec_; clear en_))
              have GB29 := Aside0.mk gb29
              have GG29 := Aside0.mk HG29
              clear gb29 gl29 HG29
              obtain ⟨hx29_0, hf29_0⟩ := Kd.R_celln 0 HO_6.out (x36_2 : Int) p29 q29
              replace p29 := eq_true p29
              replace q29 := eq_true q29
              have HP32 := Kd.R_putg HO_6.out (x36_2 : Int) (rd l0_0 (rd l1 x36_2))
              go_wp2_with (first | ((with_reducible refine gate_store (t := 3) (p := 48) rfl ?_); refine store_event (t := 3) (p := 48) (v := ?vo_w33) (w1 := (wr.setCell ⟨go29, (x36_2 : Int).toNat, none⟩ (.int .i64 (rd l0_0 (rd l1 x36_2))))) ?hg ?ho ?hn ?hr ?_; (case ho => rfl); (case hg => rfl); (case hn => rfl); (case hr => first | (go_simp; done) | (go_simp; rfl)); intro w33 hw; have hg : wr.grownBy w33 (some go29) := (by rw [hw]; exact HP32.2); have hp_ : Kd.R (Kd.int .i64) 3 w33 w.heap.size (fun _ => True) (.slice (some ⟨go29, 0, none⟩) x6_2.length co29) y260 := (by rw [hw, Ny260.out]; exact HP32.1); clear HP32; have n0_ := Aside0.mk (hp_); have n1_ := Aside0.mk (blk_grown (g := gb251) (o := .cells #[.slice (some ad259) l0_0.length c0_0, .slice A0_1 l0_1.length c0_1] 27 (0, 0)) (zb_ BK251) hg (Kd.R_ne HO_6.out BK251.out (by decide))); have n2_ := Aside0.mk (blk_grown (g := gb252) (o := .cells #[.slice none 0 0, .slice none 0 0] 27 (0, 0)) (zb_ BK252) hg (Kd.R_ne HO_6.out BK252.out (by decide))); have n3_ := Aside0.mk ((by rw [hw]; exact below_set (HB.out) GB29.out : Below w.heap.size w w33)); clear HO_6 BK251 BK252 HB; have HO_6 := n0_; have BK251 := n1_; have BK252 := n2_; have HB := n3_; clear n0_ n1_ n2_ n3_; clear hg hw hp_))
              go_roundg k2
              case measure => have := HJ2.out; have := HK2.out; omega
              case rel => exact ⟨(y260), (wrap64 (x36_2 + 1)), (by first | rfl | (simp; done) | (simp [*]; done)), H', ⟨by have := HJ2.out; have := HK2.out; omega⟩, ⟨zr_ HO_6.out⟩, ⟨zb_ BK251⟩, ⟨zb_ BK252⟩, ⟨zw2_ HB GE251 GE252⟩⟩
             ·rw [if_neg c28] at H
              exact absurd H (by simp)
            ·rw [if_neg c27] at H
             exact absurd H (by simp)
           ·rw [if_neg c26] at H
            exact absurd H (by simp)
          ·rw [if_neg c25] at H
           exact absurd H (by simp)
         ·rw [if_neg c24] at H
          exact absurd H (by simp)
        ·rw [if_neg c23] at H
         have c23b0 : decide (x36_2 < (l1.length : Int)) = false := decide_eq_false c23
         clear c23
         replace H := Option.bind_eq_some_iff.mp H
         obtain ⟨⟨t261, t264, t267⟩, A340, H⟩ := H
         replace H : (tens_Turn.l1 k2 l1 x6_2 (t264.length : Int) 0 l0_0 l0_1 t261 t264) = some (r1, r2, r3) := H
         have A34 := Aside0.mk A340
         clear A340
         have H' := Aside0.mk H
         clear H
         obtain ⟨Ao35, co35, eo35⟩ := Kd.R_slice HO_6.out
         subst eo35
         go_wp2_with (first | ((with_reducible refine gate_callee (f := 12) rfl ?_); refine zg_ (some 52) Try.func12 #[.slice Ao35 x6_2.length co35, .int .i64 0] (h := ?_); (with_reducible refine (tens_New.calls k2 _ _ x6_2 0 t261 t264 t267 _ ?side1 ?side2 A34.out).mono ?_); (case side1 => exact zk_ ((Kd.R_reads' HO_6.out).2.2)); (case side2 => exact (Kd.R_reads' HO_6.out).2.1); rintro e w36 ⟨v262, v265, rfl, ho0, ho1, hb⟩; refine ⟨_, rfl, ?_⟩; have n0_ := Aside0.mk (Kd.R_elder' (zr_ HO_6.out) (Kd.R_base ho0) hb); have n1_ := Aside0.mk (Kd.R_lower (Kd.R_new' ho0 (Kd.R_lt (zr_ HO_6.out))) (below_size (zw2_ HB GE251 GE252))); have n2_ := Aside0.mk (Kd.R_lower ho1 (below_size (zw2_ HB GE251 GE252))); have n3_ := Aside0.mk (zl_ BK251 hb); have n4_ := Aside0.mk (zl_ BK252 hb); have n5_ := Aside0.mk (below_step (zw2_ HB GE251 GE252) hb); clear HO_6 BK251 BK252 HB; have HO_6 := n0_; have HO263 := n1_; have HO266 := n2_; have BK251 := n3_; have BK252 := n4_; have HB := n5_; clear n0_ n1_ n2_ n3_ n4_ n5_; (try clear hb); (try clear hb2); (try clear hk); (try clear hi); (try clear ho0); (try clear ho1)) | ((with_reducible refine gate_dst (N := 9) rfl ?_); (try (refine gate_guard (by rfl) ?_; dsimp only)); refine box_event ?hg (N := 9) ?hd (cs := #[.slice none 0 0, .slice none 0 0]) (t := 27) ?hr ?_; (case hd => rfl); (case hg => rfl); (case hr => first | (go_simp; done) | (go_simp; rfl)); intro gb268 hg w37 hbox hb; have n0_ := Aside0.mk (Kd.R_below (zr_ HO_6.out) hb); have n1_ := Aside0.mk (Kd.R_below (zr_ HO263.out) hb); have n2_ := Aside0.mk (Kd.R_below (zr_ HO266.out) hb); have n3_ := Aside0.mk (zl_ BK251 hb); have n4_ := Aside0.mk (zl_ BK252 hb); have n5_ := Aside0.mk (below_step (zw2_ HB GE251 GE252) hb); have n6_ := Aside0.mk (hbox); have n7_ := Aside0.mk (zs_ hg (zw2_ HB GE251 GE252)); have n8_ := Aside0.mk (zs_ hg (zw2_ HB GE251 GE252)); have n9_ := Aside0.mk (zn_ hg BK251); have n10_ := Aside0.mk (zm_ hg BK251); have n11_ := Aside0.mk (zn_ hg BK252); have n12_ := Aside0.mk (zm_ hg BK252); clear HO_6 HO263 HO266 BK251 BK252 HB; have HO_6 := n0_; have HO263 := n1_; have HO266 := n2_; have BK251 := n3_; have BK252 := n4_; have HB := n5_; have BK268 := n6_; have GW268 := n7_; have GE268 := n8_; have NB251_268 := n9_; have NB268_251 := n10_; have NB252_268 := n11_; have NB268_252 := n12_; clear n0_ n1_ n2_ n3_ n4_ n5_ n6_ n7_ n8_ n9_ n10_ n11_ n12_; clear hb hbox hg; obtain ⟨Ao38, co38, eo38⟩ := Kd.R_slice HO263.out; subst eo38; have hnb39 := NB268_251.out; have hnc39 := NB251_268.out; have hnb40 := NB268_252.out; have hnc40 := NB252_268.out; have hcz41_0 := zx_ (v := .slice none 0 0) BK268 0; have hcz41_1 := zx_ (v := .slice none 0 0) BK268 1; have hfz41_0 := blk_frozen BK268.out 0; have hfz41_1 := blk_frozen BK268.out 1; obtain ⟨Ao42, co42, eo42⟩ := Kd.R_slice HO266.out; subst eo42))
         go_loopg [58] k2 (fun kq v58 w' => ∃ (x6_3 : List Int) (x58_3 : Int) (x269000_3 : List Int) (x269001_3 : List Int) (u269000 : Value) (u269001 : Value), v58 = .int .i64 x58_3 ∧ Aside0 (tens_Turn.l1 kq l1 x6_3 (t264.length : Int) x58_3 l0_0 l0_1 x269000_3 x269001_3 = some (r1, r2, r3)) ∧ Aside0 (kq ≤ k2) ∧ Aside0 (Kd.R (Kd.int .i64) 3 w' w.heap.size (fun k_ => some k_ ≠ (u269000 : Value).ownBlock) (.slice Ao35 x6_2.length co35) x6_3) ∧ Aside0 (Kd.R (Kd.int .i64) 3 w' w.heap.size (fun k_ => some k_ ≠ ((.slice Ao35 x6_2.length co35) : Value).ownBlock) u269000 x269000_3) ∧ Aside0 (Kd.R (Kd.int .i64) 23 w' w.heap.size (fun _ => True) u269001 x269001_3) ∧ Aside0 (w'.heap[gb251]? = some (.cells #[(.slice A0_0 l0_0.length c0_0), (.slice A0_1 l0_1.length c0_1)] 27 (0, 0))) ∧ Aside0 (w'.heap[gb252]? = some (.cells #[(.slice none 0 0), (.slice none 0 0)] 27 (0, 0))) ∧ Aside0 (w'.heap[gb268]? = some (.cells #[u269000, u269001] 27 (0, 0))) ∧ Aside0 (Below w.heap.size w w'))
         case atStart => exact ⟨(x6_2), (0), (t261), (t264), (.slice Ao38 t261.length co38), (.slice Ao42 t264.length co42), (by first | rfl | (simp; done) | (simp [*]; done)), H', ⟨Nat.le_refl _⟩, ⟨zr_ (Kd.R_mono (Kd.R_far (p := ⟨gb268, 1, none⟩) (Kd.R_far (p := ⟨gb268, 0, none⟩) (Kd.R_types HO_6.out BK268.out (by decide)) (fun _ hk => hk.2) (.slice Ao38 t261.length co38)) (fun _ hk => hk.2) (.slice Ao42 t264.length co42)) (fun _ hk => hk.1.2))⟩, ⟨zr_ (Kd.R_mono (Kd.R_far (p := ⟨gb268, 1, none⟩) (Kd.R_far (p := ⟨gb268, 0, none⟩) (Kd.R_types HO263.out BK268.out (by decide)) (fun _ hk => hk.2) (.slice Ao38 t261.length co38)) (fun _ hk => hk.2) (.slice Ao42 t264.length co42)) (fun _ hk => hk.1.2))⟩, ⟨zr_ (Kd.R_mono (Kd.R_far (p := ⟨gb268, 1, none⟩) (Kd.R_far (p := ⟨gb268, 0, none⟩) (Kd.R_types HO266.out BK268.out (by decide)) (fun _ hk => hk.2) (.slice Ao38 t261.length co38)) (fun _ hk => hk.2) (.slice Ao42 t264.length co42)) (fun _ hk => trivial))⟩, ⟨by (with_reducible repeat (first | refine blk_drewN ?_ _ | refine blk_drew ?_ | refine blk_alloc ?_ _)); refine blk_far ?_ NB251_268.out _; (with_reducible repeat (first | refine blk_drewN ?_ _ | refine blk_drew ?_ | refine blk_alloc ?_ _)); refine blk_far ?_ NB251_268.out _; (with_reducible repeat (first | refine blk_drewN ?_ _ | refine blk_drew ?_ | refine blk_alloc ?_ _)); exact BK251.out⟩, ⟨by (with_reducible repeat (first | refine blk_drewN ?_ _ | refine blk_drew ?_ | refine blk_alloc ?_ _)); refine blk_far ?_ NB252_268.out _; (with_reducible repeat (first | refine blk_drewN ?_ _ | refine blk_drew ?_ | refine blk_alloc ?_ _)); refine blk_far ?_ NB252_268.out _; (with_reducible repeat (first | refine blk_drewN ?_ _ | refine blk_drew ?_ | refine blk_alloc ?_ _)); exact BK252.out⟩, ⟨by (with_reducible repeat (first | refine blk_drewN ?_ _ | refine blk_drew ?_ | refine blk_alloc ?_ _)); refine blk_put (cs := #[.slice Ao38 t261.length co38, .slice none 0 0]) ?_ 1 _ rfl; (with_reducible repeat (first | refine blk_drewN ?_ _ | refine blk_drew ?_ | refine blk_alloc ?_ _)); refine blk_put (cs := #[.slice none 0 0, .slice none 0 0]) ?_ 0 _ rfl; (with_reducible repeat (first | refine blk_drewN ?_ _ | refine blk_drew ?_ | refine blk_alloc ?_ _)); exact BK268.out⟩, ⟨zw3_ HB GE251 GE252 GE268⟩⟩
         case round =>
          clear H'
          try clear c1
          try clear c2
          try clear p2
          try clear q2
          try clear hx2
          try clear hf2
          try clear c3
          try clear c4
          try clear p6
          try clear c7
          try clear c9
          try clear c12
          try clear c13
          try clear c16
          try clear c17
          try clear c19
          try clear c19b0
          try clear c19b1
          try clear c20
          try clear c20b0
          try clear c20b1
          try clear c23
          try clear c23b0
          try clear c24
          try clear c24b0
          try clear c25
          try clear c25b0
          try clear p25
          try clear q25
          try clear hx25
          try clear c26
          try clear c26b0
          try clear c27
          try clear c27b0
          try clear c28
          try clear c28b0
          try clear p29
          try clear q29
          try clear hx29
          try clear hf29
          try clear c30
          try clear c39
          try clear c40
          try clear hcz10_0
          try clear hcz10_1
          try clear hcz12_0
          try clear hcz12_1
          try clear hcz14_0
          try clear hcz14_1
          try clear hcz18_0
          try clear hcz18_1
          try clear hcz31_0
          try clear hcz31_1
          try clear hcz41_0
          try clear hcz41_1
          try clear hfz10_0
          try clear hfz10_1
          try clear hfz12_0
          try clear hfz12_1
          try clear hfz14_0
          try clear hfz14_1
          try clear hfz18_0
          try clear hfz18_1
          try clear hfz31_0
          try clear hfz31_1
          try clear hfz41_0
          try clear hfz41_1
          try clear hx258_0
          try clear hx259_0
          try clear hx29_0
          try clear p2
          try clear p258
          try clear p259
          try clear p29
          try clear q258
          try clear q259
          try clear q29
          obtain ⟨x6_3, x58_3, x269000_3, x269001_3, u269000, u269001, rfl, HA, HK3, HO_6, HO_269000, HO_269001, BK251, BK252, BK268, HB⟩ := hrel
          have hl6_3 := (Kd.R_reads' HO_6.out).1
          rw [hl6_3] at HO_6
          (try simp only [hl6_3])
          (try simp only [hl6_3] at BK251)
          (try simp only [hl6_3] at BK252)
          (try simp only [hl6_3] at BK268)
          (try simp only [hl6_3] at HO_269000)
          (try simp only [hl6_3] at HO_269001)
          cases gk with
          | zero => exact absurd HA.out (by simp [tens_Turn.l1])
          | succ k3 =>
           have H := HA.out
           clear HA
           simp only [tens_Turn.l1] at H
           by_cases c43 : x58_3 < (t264.length : Int)
           ·rw [if_pos c43] at H
            have c43b0 : decide (x58_3 < (t264.length : Int)) = true := decide_eq_true c43
            clear c43
            replace H := Option.bind_eq_some_iff.mp H
            obtain ⟨⟨t269, t270⟩, A440, H⟩ := H
            (try dsimp only at H)
            have A44 := Aside0.mk A440
            clear A440
            by_cases c45 : 0 ≤ (l1.length : Int)
            ·rw [if_pos c45] at H
             have c45b0 := eq_true c45
             have c45b1 : decide (0 ≤ (l1.length : Int)) = true := decide_eq_true c45
             clear c45
             by_cases c46 : ((l1.length : Int) : Int).toNat ≤ 35184372088832
             ·rw [if_pos c46] at H
              have c46b0 := eq_true c46
              have c46b1 : decide (((l1.length : Int) : Int).toNat ≤ 35184372088832) = true := decide_eq_true c46
              clear c46
              obtain ⟨y273, hy273⟩ : ∃ y_ : List Int, y_ = (List.replicate ((l1.length : Int) : Int).toNat 0) := ⟨_, rfl⟩
              replace H : (tens_Turn.l2 k3 l1 x6_3 x58_3 t269 y273 (t264.length : Int) x58_3 l1 (l1.length : Int) 0 l0_0 l0_1 x269000_3 x269001_3) = some (r1, r2, r3) := by first | (rw [hy273]; with_reducible exact H) | (have H2_ := (Option.bind_some _ _).symm.trans H; rw [hy273]; with_reducible exact H2_) | (have H2_ := (Option.bind_some _ _).symm.trans H; with_reducible exact H2_) | with_reducible exact H | (rw [hy273]; exact H) | exact H
              have Ny273 := Aside0.mk hy273
              clear hy273
              have H' := Aside0.mk H
              clear H
              go_wp2_with (first | ((with_reducible refine gate_callee (f := 52) rfl ?_); refine zg_ (some 64) Try.func52 #[.slice Ao35 x6_3.length co35, .int .i64 x58_3] (h := ?_); (with_reducible refine (shape_Place.calls k3 _ _ x6_3 x58_3 t269 t270 _ ?side1 ?side2 A44.out).mono ?_); (case side1 => exact zk_ ((Kd.R_reads' HO_6.out).2.2)); (case side2 => exact (Kd.R_reads' HO_6.out).2.1); rintro e w47 ⟨v271, rfl, ho0, hb⟩; refine ⟨_, rfl, ?_⟩; have n0_ := Aside0.mk (Kd.R_elder' (zr_ HO_6.out) (Kd.R_base ho0) hb); have n1_ := Aside0.mk (Kd.R_elder' (zr_ HO_269000.out) (Kd.R_base ho0) hb); have n2_ := Aside0.mk (Kd.R_below (zr_ HO_269001.out) hb); have n3_ := Aside0.mk (Kd.R_lower (Kd.R_new' (Kd.R_new' ho0 (Kd.R_lt (zr_ HO_6.out))) (Kd.R_lt (zr_ HO_269000.out))) (below_size (zw3_ HB GE251 GE252 GE268))); have n4_ := Aside0.mk (zl_ BK251 hb); have n5_ := Aside0.mk (zl_ BK252 hb); have n6_ := Aside0.mk (zl_ BK268 hb); have n7_ := Aside0.mk (below_step (zw3_ HB GE251 GE252 GE268) hb); clear HO_6 HO_269000 HO_269001 BK251 BK252 BK268 HB; have HO_6 := n0_; have HO_269000 := n1_; have HO_269001 := n2_; have HO272 := n3_; have BK251 := n4_; have BK252 := n5_; have BK268 := n6_; have HB := n7_; clear n0_ n1_ n2_ n3_ n4_ n5_ n6_ n7_; (try clear hb); (try clear hb2); (try clear hk); (try clear hi); (try clear ho0)) | ((with_reducible refine gate_dst (N := 69) rfl ?_); (try (refine gate_guard (by rfl) ?_; dsimp only)); refine Kd.R_make (Kd.int .i64) _ 3 rfl (N := 69) rfl 22 _ _ rfl (l1.length : Int) rfl rfl Try.underlying22 (.int .i64 0) 8 info3 rfl (by decide) (by omega) 0 (ok := fun _ => True) (okp := fun _ => True) rfl (fun _ hk => hk) trivial (of_decide_eq_true (by first | (with_reducible assumption) | assumption)) (Nat.le_trans (Nat.mul_le_mul_right _ (of_decide_eq_true (by first | (with_reducible assumption) | assumption) : (l1.length : Int).toNat ≤ 35184372088832)) (by omega)) (Below.refl _ _) (Nat.le_refl _) ?_; intro v274 w48 ho49 hb hg_ hnew_; clear hg_ hnew_; (first | rw [← Ny273.out] at ho49 | (simp only [Int.reduceToNat] at ho49; rw [← Ny273.out] at ho49)); have n0_ := Aside0.mk (Kd.R_elder' (zr_ HO_6.out) (Kd.R_base ho49) hb); have n1_ := Aside0.mk (Kd.R_elder' (zr_ HO_269000.out) (Kd.R_base ho49) hb); have n2_ := Aside0.mk (Kd.R_below (zr_ HO_269001.out) hb); have n3_ := Aside0.mk (Kd.R_elder' (zr_ HO272.out) (Kd.R_base ho49) hb); have n4_ := Aside0.mk (Kd.R_lower (Kd.R_new' (Kd.R_new' (Kd.R_new' ho49 (Kd.R_lt (zr_ HO_6.out))) (Kd.R_lt (zr_ HO_269000.out))) (Kd.R_lt (zr_ HO272.out))) (below_size (zw3_ HB GE251 GE252 GE268))); have n5_ := Aside0.mk (zl_ BK251 hb); have n6_ := Aside0.mk (zl_ BK252 hb); have n7_ := Aside0.mk (zl_ BK268 hb); have n8_ := Aside0.mk (below_step (zw3_ HB GE251 GE252 GE268) hb); clear HO_6 HO_269000 HO_269001 HO272 BK251 BK252 BK268 HB; have HO_6 := n0_; have HO_269000 := n1_; have HO_269001 := n2_; have HO272 := n3_; have HO275 := n4_; have BK251 := n5_; have BK252 := n6_; have BK268 := n7_; have HB := n8_; clear n0_ n1_ n2_ n3_ n4_ n5_ n6_ n7_ n8_; clear hb ho49))
              go_loopg [72] k3 (fun kq v72 w' => ∃ (x14_4 : List Int) (x72_4 : Int), v72 = .int .i64 x72_4 ∧ Aside0 (tens_Turn.l2 kq l1 x6_3 x58_3 t269 x14_4 (t264.length : Int) x58_3 l1 (l1.length : Int) x72_4 l0_0 l0_1 x269000_3 x269001_3 = some (r1, r2, r3)) ∧ Aside0 (kq ≤ k3) ∧ Aside0 (Kd.R (Kd.int .i64) 3 w' w.heap.size (fun k_ => some k_ ≠ (v271 : Value).ownBlock ∧ some k_ ≠ (v274 : Value).ownBlock ∧ some k_ ≠ (u269000 : Value).ownBlock) (.slice Ao35 x6_3.length co35) x6_3) ∧ Aside0 (Kd.R (Kd.int .i64) 3 w' w.heap.size (fun k_ => some k_ ≠ ((.slice Ao35 x6_3.length co35) : Value).ownBlock ∧ some k_ ≠ (v274 : Value).ownBlock ∧ some k_ ≠ (u269000 : Value).ownBlock) v271 t269) ∧ Aside0 (Kd.R (Kd.int .i64) 3 w' w.heap.size (fun k_ => some k_ ≠ ((.slice Ao35 x6_3.length co35) : Value).ownBlock ∧ some k_ ≠ (v271 : Value).ownBlock ∧ some k_ ≠ (u269000 : Value).ownBlock) v274 x14_4) ∧ Aside0 (Kd.R (Kd.int .i64) 3 w' w.heap.size (fun k_ => some k_ ≠ ((.slice Ao35 x6_3.length co35) : Value).ownBlock ∧ some k_ ≠ (v271 : Value).ownBlock ∧ some k_ ≠ (v274 : Value).ownBlock) u269000 x269000_3) ∧ Aside0 (Kd.R (Kd.int .i64) 23 w' w.heap.size (fun _ => True) u269001 x269001_3) ∧ Aside0 (w'.heap[gb251]? = some (.cells #[(.slice A0_0 l0_0.length c0_0), (.slice A0_1 l0_1.length c0_1)] 27 (0, 0))) ∧ Aside0 (w'.heap[gb252]? = some (.cells #[(.slice none 0 0), (.slice none 0 0)] 27 (0, 0))) ∧ Aside0 (w'.heap[gb268]? = some (.cells #[u269000, u269001] 27 (0, 0))) ∧ Aside0 (Below w.heap.size w w'))
              case atStart => exact ⟨(y273), (0), (by first | rfl | (simp; done) | (simp [*]; done)), H', ⟨Nat.le_refl _⟩, ⟨by (try simp only [hl6_3]); (with_reducible repeat (first | apply Kd.R_alloc | apply Kd.R_drewN | apply Kd.R_drew)); exact Kd.R_mono HO_6.out (fun _ hk => ⟨hk.1.2, ⟨hk.2, hk.1.1⟩⟩)⟩, ⟨by (try simp only [hl6_3]); (with_reducible repeat (first | apply Kd.R_alloc | apply Kd.R_drewN | apply Kd.R_drew)); exact Kd.R_mono HO272.out (fun _ hk => ⟨hk.1.1.2, ⟨hk.2, hk.1.2⟩⟩)⟩, ⟨by (try simp only [hl6_3]); (with_reducible repeat (first | apply Kd.R_alloc | apply Kd.R_drewN | apply Kd.R_drew)); exact Kd.R_mono HO275.out (fun _ hk => ⟨hk.1.1.2, ⟨hk.2, hk.1.2⟩⟩)⟩, ⟨by (try simp only [hl6_3]); (with_reducible repeat (first | apply Kd.R_alloc | apply Kd.R_drewN | apply Kd.R_drew)); exact Kd.R_mono HO_269000.out (fun _ hk => ⟨hk.1.1, ⟨hk.1.2, hk.2⟩⟩)⟩, ⟨by (try simp only [hl6_3]); (with_reducible repeat (first | apply Kd.R_alloc | apply Kd.R_drewN | apply Kd.R_drew)); exact HO_269001.out⟩, ⟨by (try simp only [hl6_3]); (with_reducible repeat (first | refine blk_drewN ?_ _ | refine blk_drew ?_ | refine blk_alloc ?_ _)); exact BK251.out⟩, ⟨by (try simp only [hl6_3]); (with_reducible repeat (first | refine blk_drewN ?_ _ | refine blk_drew ?_ | refine blk_alloc ?_ _)); exact BK252.out⟩, ⟨by (try simp only [hl6_3]); (with_reducible repeat (first | refine blk_drewN ?_ _ | refine blk_drew ?_ | refine blk_alloc ?_ _)); exact BK268.out⟩, ⟨zw3_ HB GE251 GE252 GE268⟩⟩
              case round =>
               clear H'
               try clear c1
               try clear c2
               try clear p2
               try clear q2
               try clear hx2
               try clear hf2
               try clear c3
               try clear c4
               try clear c5
               try clear p6
               try clear c7
               try clear c9
               try clear c12
               try clear c13
               try clear c16
               try clear c17
               try clear c19
               try clear c19b0
               try clear c19b1
               try clear c20
               try clear c20b0
               try clear c20b1
               try clear c23
               try clear c23b0
               try clear c24
               try clear c24b0
               try clear c25
               try clear c25b0
               try clear p25
               try clear q25
               try clear hx25
               try clear c26
               try clear c26b0
               try clear c27
               try clear c27b0
               try clear c28
               try clear c28b0
               try clear p29
               try clear q29
               try clear hx29
               try clear hf29
               try clear c30
               try clear c39
               try clear c40
               try clear c43
               try clear c43b0
               try clear c45
               try clear c45b0
               try clear c45b1
               try clear c46
               try clear c46b0
               try clear c46b1
               try clear hcz10_0
               try clear hcz10_1
               try clear hcz12_0
               try clear hcz12_1
               try clear hcz14_0
               try clear hcz14_1
               try clear hcz18_0
               try clear hcz18_1
               try clear hcz31_0
               try clear hcz31_1
               try clear hcz41_0
               try clear hcz41_1
               try clear hfz10_0
               try clear hfz10_1
               try clear hfz12_0
               try clear hfz12_1
               try clear hfz14_0
               try clear hfz14_1
               try clear hfz18_0
               try clear hfz18_1
               try clear hfz31_0
               try clear hfz31_1
               try clear hfz41_0
               try clear hfz41_1
               try clear hx258_0
               try clear hx259_0
               try clear hx29_0
               try clear p2
               try clear p25
               try clear p258
               try clear p259
               try clear p29
               try clear p6
               try clear q2
               try clear q25
               try clear q258
               try clear q259
               try clear q29
               obtain ⟨x14_4, x72_4, rfl, HA, HK4, HO_6, HO_12, HO_14, HO_269000, HO_269001, BK251, BK252, BK268, HB⟩ := hrel
               cases gk with
               | zero => exact absurd HA.out (by simp [tens_Turn.l2])
               | succ k4 =>
                have H := HA.out
                clear HA
                simp only [tens_Turn.l2] at H
                by_cases c50 : x72_4 < (l1.length : Int)
                ·rw [if_pos c50] at H
                 have c50b0 : decide (x72_4 < (l1.length : Int)) = true := decide_eq_true c50
                 clear c50
                 by_cases c51 : 0 ≤ x72_4
                 ·rw [if_pos c51] at H
                  have c51b0 : decide (0 ≤ x72_4) = true := decide_eq_true c51
                  clear c51
                  by_cases c52 : x72_4 < (l1.length : Int)
                  ·rw [if_pos c52] at H
                   have c52b0 : decide (x72_4 < (l1.length : Int)) = true := decide_eq_true c52
                   clear c52
                   by_cases c53 : x72_4 < (t269.length : Int)
                   ·rw [if_pos c53] at H
                    have c53b0 : decide (x72_4 < (t269.length : Int)) = true := decide_eq_true c53
                    clear c53
                    by_cases c54 : 0 ≤ (rd l1 x72_4)
                    ·rw [if_pos c54] at H
                     have c54b0 : decide (0 ≤ (rd l1 x72_4)) = true := decide_eq_true c54
                     clear c54
                     by_cases c55 : (rd l1 x72_4) < (x14_4.length : Int)
                     ·rw [if_pos c55] at H
                      have c55b0 : decide ((rd l1 x72_4) < (x14_4.length : Int)) = true := decide_eq_true c55
                      clear c55
                      obtain ⟨y278, hy278⟩ : ∃ y_ : List Int, y_ = (x14_4.set ((rd l1 x72_4) : Int).toNat (rd t269 x72_4)) := ⟨_, rfl⟩
                      replace H : (tens_Turn.l2 k4 l1 x6_3 x58_3 t269 y278 (t264.length : Int) x58_3 l1 (l1.length : Int) (wrap64 (x72_4 + 1)) l0_0 l0_1 x269000_3 x269001_3) = some (r1, r2, r3) := by first | (rw [hy278]; with_reducible exact H) | (have H2_ := (Option.bind_some _ _).symm.trans H; rw [hy278]; with_reducible exact H2_) | (have H2_ := (Option.bind_some _ _).symm.trans H; with_reducible exact H2_) | with_reducible exact H | (rw [hy278]; exact H) | exact H
                      have Ny278 := Aside0.mk hy278
                      clear hy278
                      have H' := Aside0.mk H
                      clear H
                      have p276 : 0 ≤ (x72_4 : Int) := of_decide_eq_true (by first | (with_reducible assumption) | assumption)
                      have q276 : x72_4 < (l1.length : Int) := of_decide_eq_true (by first | (with_reducible assumption) | assumption)
                      obtain ⟨ad276, e276, hx276_0⟩ := Kd.at_int HR1.out x72_4 p276 q276
                      cases e276
                      replace hx276_0 := (HB.out.cell (World.block_lt_of_cell? w _ hx276_0)).trans hx276_0
                      replace p276 := eq_true p276
                      replace q276 := eq_true q276
                      obtain ⟨Ao57, co57, eo57⟩ := Kd.R_slice HO_12.out
                      subst eo57
                      have p277 : 0 ≤ (x72_4 : Int) := of_decide_eq_true (by first | (with_reducible assumption) | assumption)
                      have q277 : x72_4 < (t269.length : Int) := of_decide_eq_true (by first | (with_reducible assumption) | assumption)
                      obtain ⟨ad277, e277, hx277_0⟩ := Kd.at_int (Kd.R_reads' HO_12.out).2.2 x72_4 p277 q277
                      cases e277
                      replace p277 := eq_true p277
                      replace q277 := eq_true q277
                      have p56 : 0 ≤ ((rd l1 x72_4) : Int) := of_decide_eq_true (by first | (with_reducible assumption) | assumption)
                      have q56 : ((rd l1 x72_4) : Int) < ((x14_4.length : Int) : Int) := of_decide_eq_true (by first | (with_reducible assumption) | assumption)
                      obtain ⟨go56, co56, eo56, gb56, gl56, cl56, HG56⟩ := Kd.R_form HO_14.out (by omega)
                      (first | cases eo56 | (injection eo56 with ea_ en_ ec_; (first | subst ea_ | (injection ea_ with ea_; subst ea_)); subst ec_; clear en_))
                      have GB56 := Aside0.mk gb56
                      have GG56 := Aside0.mk HG56
                      clear gb56 gl56 HG56
                      obtain ⟨hx56_0, hf56_0⟩ := Kd.R_celln 0 HO_14.out ((rd l1 x72_4) : Int) p56 q56
                      replace p56 := eq_true p56
                      replace q56 := eq_true q56
                      have HP58 := Kd.R_putg HO_14.out ((rd l1 x72_4) : Int) (rd t269 x72_4)
                      go_wp2_with (first | ((with_reducible refine gate_store (t := 3) (p := 83) rfl ?_); refine store_event (t := 3) (p := 83) (v := ?vo_w59) (w1 := (wr.setCell ⟨go56, ((rd l1 x72_4) : Int).toNat, none⟩ (.int .i64 (rd t269 x72_4)))) ?hg ?ho ?hn ?hr ?_; (case ho => rfl); (case hg => rfl); (case hn => rfl); (case hr => first | (go_simp; done) | (go_simp; rfl)); intro w59 hw; have hg : wr.grownBy w59 (some go56) := (by rw [hw]; exact HP58.2); have hp_ : Kd.R (Kd.int .i64) 3 w59 w.heap.size (fun k_ => some k_ ≠ (.slice Ao35 x6_3.length co35 : Value).ownBlock ∧ some k_ ≠ (.slice (some ad277) t269.length co57 : Value).ownBlock ∧ some k_ ≠ (u269000 : Value).ownBlock) (.slice (some ⟨go56, 0, none⟩) x14_4.length co56) y278 := (by rw [hw, Ny278.out]; exact HP58.1); clear HP58; have n0_ := Aside0.mk (Kd.R_after (v := (.slice (some ⟨go56, 0, none⟩) x14_4.length co56)) (v1 := (.slice (some ⟨go56, 0, none⟩) x14_4.length co56)) (ok := (fun k_ => some k_ ≠ (.slice (some ad277) t269.length co57 : Value).ownBlock ∧ some k_ ≠ (u269000 : Value).ownBlock)) (zr_ (Kd.R_mono HO_6.out (fun _ hk => ⟨⟨hk.1, hk.2.2⟩, hk.2.1⟩))) hg (.inl rfl)); have n1_ := Aside0.mk (Kd.R_after (v := (.slice (some ⟨go56, 0, none⟩) x14_4.length co56)) (v1 := (.slice (some ⟨go56, 0, none⟩) x14_4.length co56)) (ok := (fun k_ => some k_ ≠ (.slice Ao35 x6_3.length co35 : Value).ownBlock ∧ some k_ ≠ (u269000 : Value).ownBlock)) (zr_ (Kd.R_mono HO_12.out (fun _ hk => ⟨⟨hk.1, hk.2.2⟩, hk.2.1⟩))) hg (.inl rfl)); have n2_ := Aside0.mk (hp_); have n3_ := Aside0.mk (Kd.R_after (v := (.slice (some ⟨go56, 0, none⟩) x14_4.length co56)) (v1 := (.slice (some ⟨go56, 0, none⟩) x14_4.length co56)) (ok := (fun k_ => some k_ ≠ (.slice Ao35 x6_3.length co35 : Value).ownBlock ∧ some k_ ≠ (.slice (some ad277) t269.length co57 : Value).ownBlock)) (zr_ (Kd.R_mono HO_269000.out (fun _ hk => ⟨⟨hk.1, hk.2.1⟩, hk.2.2⟩))) hg (.inl rfl)); have n4_ := Aside0.mk (Kd.R_over' (v := (.slice (some ⟨go56, 0, none⟩) x14_4.length co56)) (zr_ HO_269001.out) (Kd.R_typed HO_14.out) (by decide) hg); have n5_ := Aside0.mk (blk_grown (g := gb251) (o := .cells #[.slice A0_0 l0_0.length c0_0, .slice A0_1 l0_1.length c0_1] 27 (0, 0)) (zb_ BK251) hg (Kd.R_ne HO_14.out BK251.out (by decide))); have n6_ := Aside0.mk (blk_grown (g := gb252) (o := .cells #[.slice none 0 0, .slice none 0 0] 27 (0, 0)) (zb_ BK252) hg (Kd.R_ne HO_14.out BK252.out (by decide))); have n7_ := Aside0.mk (blk_grown (g := gb268) (o := .cells #[u269000, u269001] 27 (0, 0)) (zb_ BK268) hg (Kd.R_ne HO_14.out BK268.out (by decide))); have n8_ := Aside0.mk ((by rw [hw]; exact below_set (HB.out) GB56.out : Below w.heap.size w w59)); clear HO_6 HO_12 HO_14 HO_269000 HO_269001 BK251 BK252 BK268 HB; have HO_6 := n0_; have HO_12 := n1_; have HO_14 := n2_; have HO_269000 := n3_; have HO_269001 := n4_; have BK251 := n5_; have BK252 := n6_; have BK268 := n7_; have HB := n8_; clear n0_ n1_ n2_ n3_ n4_ n5_ n6_ n7_ n8_; clear hg hw hp_))
                      go_roundg k4
                      case measure => have := HJ2.out; have := HK2.out; have := HK3.out; have := HK4.out; omega
                      case rel => exact ⟨(y278), (wrap64 (x72_4 + 1)), (by first | rfl | (simp; done) | (simp [*]; done)), H', ⟨by have := HJ2.out; have := HK2.out; have := HK3.out; have := HK4.out; omega⟩, ⟨by (try simp only [hl6_3]); (with_reducible repeat (first | apply Kd.R_alloc | apply Kd.R_drewN | apply Kd.R_drew)); exact Kd.R_mono HO_6.out (fun _ hk => ⟨hk.1.1, ⟨hk.2, hk.1.2⟩⟩)⟩, ⟨by (try simp only [hl6_3]); (with_reducible repeat (first | apply Kd.R_alloc | apply Kd.R_drewN | apply Kd.R_drew)); exact Kd.R_mono HO_12.out (fun _ hk => ⟨hk.1.1, ⟨hk.2, hk.1.2⟩⟩)⟩, ⟨by (try simp only [hl6_3]); (with_reducible repeat (first | apply Kd.R_alloc | apply Kd.R_drewN | apply Kd.R_drew)); exact HO_14.out⟩, ⟨by (try simp only [hl6_3]); (with_reducible repeat (first | apply Kd.R_alloc | apply Kd.R_drewN | apply Kd.R_drew)); exact Kd.R_mono HO_269000.out (fun _ hk => ⟨hk.1.1, ⟨hk.1.2, hk.2⟩⟩)⟩, ⟨by (try simp only [hl6_3]); (with_reducible repeat (first | apply Kd.R_alloc | apply Kd.R_drewN | apply Kd.R_drew)); exact HO_269001.out⟩, ⟨by (try simp only [hl6_3]); (with_reducible repeat (first | refine blk_drewN ?_ _ | refine blk_drew ?_ | refine blk_alloc ?_ _)); exact BK251.out⟩, ⟨by (try simp only [hl6_3]); (with_reducible repeat (first | refine blk_drewN ?_ _ | refine blk_drew ?_ | refine blk_alloc ?_ _)); exact BK252.out⟩, ⟨by (try simp only [hl6_3]); (with_reducible repeat (first | refine blk_drewN ?_ _ | refine blk_drew ?_ | refine blk_alloc ?_ _)); exact BK268.out⟩, ⟨zw3_ HB GE251 GE252 GE268⟩⟩
                     ·rw [if_neg c55] at H
                      exact absurd H (by simp)
                    ·rw [if_neg c54] at H
                     exact absurd H (by simp)
                   ·rw [if_neg c53] at H
                    exact absurd H (by simp)
                  ·rw [if_neg c52] at H
                   exact absurd H (by simp)
                 ·rw [if_neg c51] at H
                  exact absurd H (by simp)
                ·rw [if_neg c50] at H
                 have c50b0 : decide (x72_4 < (l1.length : Int)) = false := decide_eq_false c50
                 clear c50
                 replace H := Option.bind_eq_some_iff.mp H
                 obtain ⟨⟨t279, t280⟩, A600, H⟩ := H
                 (try dsimp only at H)
                 have A60 := Aside0.mk A600
                 clear A600
                 by_cases c61 : 0 ≤ t279
                 ·rw [if_pos c61] at H
                  have c61b0 : decide (0 ≤ t279) = true := decide_eq_true c61
                  clear c61
                  by_cases c62 : t279 < (l0_1.length : Int)
                  ·rw [if_pos c62] at H
                   have c62b0 : decide (t279 < (l0_1.length : Int)) = true := decide_eq_true c62
                   clear c62
                   by_cases c63 : 0 ≤ x58_3
                   ·rw [if_pos c63] at H
                    have c63b0 : decide (0 ≤ x58_3) = true := decide_eq_true c63
                    clear c63
                    by_cases c64 : x58_3 < (x269001_3.length : Int)
                    ·rw [if_pos c64] at H
                     have c64b0 : decide (x58_3 < (x269001_3.length : Int)) = true := decide_eq_true c64
                     clear c64
                     obtain ⟨y282, hy282⟩ : ∃ y_ : List Int, y_ = (x269001_3.set (x58_3 : Int).toNat (rd l0_1 t279)) := ⟨_, rfl⟩
                     replace H : (tens_Turn.l1 k4 l1 x6_3 (t264.length : Int) (wrap64 (x58_3 + 1)) l0_0 l0_1 x269000_3 y282) = some (r1, r2, r3) := by first | (rw [hy282]; with_reducible exact H) | (have H2_ := (Option.bind_some _ _).symm.trans H; rw [hy282]; with_reducible exact H2_) | (have H2_ := (Option.bind_some _ _).symm.trans H; with_reducible exact H2_) | with_reducible exact H | (rw [hy282]; exact H) | exact H
                     have Ny282 := Aside0.mk hy282
                     clear hy282
                     have H' := Aside0.mk H
                     clear H
                     have hnb66 := NB251_252.out
                     have hnc66 := NB252_251.out
                     have hnb67 := NB251_268.out
                     have hnc67 := NB268_251.out
                     have hcz68_0 := zx_ (v := .slice A0_0 l0_0.length c0_0) BK251 0
                     have hcz68_1 := zx_ (v := .slice A0_1 l0_1.length c0_1) BK251 1
                     have hfz68_0 := blk_frozen BK251.out 0
                     have hfz68_1 := blk_frozen BK251.out 1
                     obtain ⟨Ao69, co69, eo69⟩ := Kd.R_slice HO_14.out
                     subst eo69
                     try go_wp2_with (first | ((with_reducible refine gate_callee (f := 53) rfl ?_); refine zg_ (some 89) Try.func53 #[.slice A0_0 l0_0.length c0_0, .slice Ao69 x14_4.length co69] (h := ?_); (with_reducible refine (shape_At.calls k4 _ _ l0_0 _ _ x14_4 t279 t280 _ ?side1 ?side2 ?side3 ?side4 A60.out).mono ?_); (case side1 => exact zk_ (Kd.C_below HR0_0.out HB.out)); (case side2 => exact HC0_0.out); (case side3 => exact zk_ ((Kd.R_reads' HO_14.out).2.2)); (case side4 => exact (Kd.R_reads' HO_14.out).2.1); rintro e w' ⟨rfl, ⟨nd, rfl⟩⟩; refine ⟨_, rfl, ?_⟩; (try (rw [drewN_self wr]; generalize hq_ : World.drewN wr _ = wr; have n0_ : Aside0 (Kd.R (Kd.int .i64) 3 wr w.heap.size (fun k_ => some k_ ≠ (.slice Ao69 x14_4.length co69 : Value).ownBlock ∧ some k_ ≠ (u269000 : Value).ownBlock ∧ some k_ ≠ (.slice Ao35 x6_3.length co35 : Value).ownBlock) v271 t269) := ⟨by rw [← hq_]; exact (zr_ (Kd.R_mono HO_12.out (fun _ hk => ⟨hk.2.1, ⟨hk.2.2, hk.1⟩⟩)))⟩; have n1_ : Aside0 (Kd.R (Kd.int .i64) 3 wr w.heap.size (fun k_ => some k_ ≠ (v271 : Value).ownBlock ∧ some k_ ≠ (u269000 : Value).ownBlock ∧ some k_ ≠ (.slice Ao35 x6_3.length co35 : Value).ownBlock) (.slice Ao69 x14_4.length co69) x14_4) := ⟨by rw [← hq_]; exact (zr_ (Kd.R_mono HO_14.out (fun _ hk => ⟨hk.2.1, ⟨hk.2.2, hk.1⟩⟩)))⟩; have n2_ : Aside0 (Kd.R (Kd.int .i64) 3 wr w.heap.size (fun k_ => some k_ ≠ (v271 : Value).ownBlock ∧ some k_ ≠ (.slice Ao69 x14_4.length co69 : Value).ownBlock ∧ some k_ ≠ (.slice Ao35 x6_3.length co35 : Value).ownBlock) u269000 x269000_3) := ⟨by rw [← hq_]; exact (zr_ (Kd.R_mono HO_269000.out (fun _ hk => ⟨hk.2.1, ⟨hk.2.2, hk.1⟩⟩)))⟩; have n3_ : Aside0 (Kd.R (Kd.int .i64) 23 wr w.heap.size (fun _ => True) u269001 x269001_3) := ⟨by rw [← hq_]; exact (zr_ HO_269001.out)⟩; have n4_ : Aside0 (Kd.R (Kd.int .i64) 3 wr w.heap.size (fun k_ => some k_ ≠ (v271 : Value).ownBlock ∧ some k_ ≠ (.slice Ao69 x14_4.length co69 : Value).ownBlock ∧ some k_ ≠ (u269000 : Value).ownBlock) (.slice Ao35 x6_3.length co35) x6_3) := ⟨by rw [← hq_]; exact (zr_ HO_6.out)⟩; have n5_ : Aside0 (wr.heap[gb251]? = some (.cells #[.slice A0_0 l0_0.length c0_0, .slice A0_1 l0_1.length c0_1] 27 (0, 0))) := ⟨by rw [← hq_]; exact (zb_ BK251)⟩; have n6_ : Aside0 (wr.heap[gb252]? = some (.cells #[.slice none 0 0, .slice none 0 0] 27 (0, 0))) := ⟨by rw [← hq_]; exact (zb_ BK252)⟩; have n7_ : Aside0 (wr.heap[gb268]? = some (.cells #[u269000, u269001] 27 (0, 0))) := ⟨by rw [← hq_]; exact (zb_ BK268)⟩; have n8_ : Aside0 (Below w.heap.size w wr) := ⟨by rw [← hq_]; exact (zw3_ HB GE251 GE252 GE268)⟩; clear HO_12 HO_14 HO_269000 HO_269001 HO_6 BK251 BK252 BK268 HB hq_; have HO_12 := n0_; have HO_14 := n1_; have HO_269000 := n2_; have HO_269001 := n3_; have HO_6 := n4_; have BK251 := n5_; have BK252 := n6_; have BK268 := n7_; have HB := n8_; clear n0_ n1_ n2_ n3_ n4_ n5_ n6_ n7_ n8_; (try (have hcz31_0 := zx_ (v := .slice A0_0 l0_0.length c0_0) BK251 0)); (try (have hcz31_1 := zx_ (v := .slice A0_1 l0_1.length c0_1) BK251 1)); (try (have hfz31_0 := blk_frozen BK251.out 0)); (try (have hfz31_1 := blk_frozen BK251.out 1)); (try (have hcz68_0 := zx_ (v := .slice A0_0 l0_0.length c0_0) BK251 0)); (try (have hcz68_1 := zx_ (v := .slice A0_1 l0_1.length c0_1) BK251 1)); (try (have hfz68_0 := blk_frozen BK251.out 0)); (try (have hfz68_1 := blk_frozen BK251.out 1))))))
                     have n0_ := Aside0.mk (Kd.R_drew HO_6.out)
                     have n1_ := Aside0.mk (Kd.R_drew HO_12.out)
                     have n2_ := Aside0.mk (Kd.R_drew HO_14.out)
                     have n3_ := Aside0.mk (Kd.R_drew HO_269000.out)
                     have n4_ := Aside0.mk (Kd.R_drew HO_269001.out)
                     have n5_ := Aside0.mk (blk_drew BK251.out)
                     have n6_ := Aside0.mk (blk_drew BK252.out)
                     have n7_ := Aside0.mk (blk_drew BK268.out)
                     have n8_ := Aside0.mk (below_drew1 HB.out)
                     clear HO_6
                     clear HO_12
                     clear HO_14
                     clear HO_269000
                     clear HO_269001
                     clear BK251
                     clear BK252
                     clear BK268
                     clear HB
                     have HO_6 := n0_
                     have HO_12 := n1_
                     have HO_14 := n2_
                     have HO_269000 := n3_
                     have HO_269001 := n4_
                     have BK251 := n5_
                     have BK252 := n6_
                     have BK268 := n7_
                     have HB := n8_
                     clear n0_ n1_ n2_ n3_ n4_ n5_ n6_ n7_ n8_
                     have p281 : 0 ≤ (t279 : Int) := of_decide_eq_true (by first | (with_reducible assumption) | assumption)
                     have q281 : t279 < (l0_1.length : Int) := of_decide_eq_true (by first | (with_reducible assumption) | assumption)
                     obtain ⟨ad281, e281, hx281_0⟩ := Kd.at_int HR0_1.out t279 p281 q281
                     have hw281_0 := hx281_0
                     cases e281
                     replace hx281_0 := (HB.out.cell (World.block_lt_of_cell? w _ hx281_0)).trans hx281_0
                     replace p281 := eq_true p281
                     replace q281 := eq_true q281
                     have p65 : 0 ≤ (x58_3 : Int) := of_decide_eq_true (by first | (with_reducible assumption) | assumption)
                     have q65 : (x58_3 : Int) < ((x269001_3.length : Int) : Int) := of_decide_eq_true (by first | (with_reducible assumption) | assumption)
                     obtain ⟨go65, co65, eo65, gb65, gl65, cl65, HG65⟩ := Kd.R_form HO_269001.out (by omega)
                     (first | cases eo65 | (injection eo65 with ea_ en_ ec_; (first | subst ea_ | (injection ea_ with ea_; subst ea_)); subst ec_; clear en_))
                     have GB65 := Aside0.mk gb65
                     have GG65 := Aside0.mk HG65
                     clear gb65 gl65 HG65
                     obtain ⟨hx65_0, hf65_0⟩ := Kd.R_celln 0 HO_269001.out (x58_3 : Int) p65 q65
                     replace p65 := eq_true p65
                     replace q65 := eq_true q65
                     have HP71 := Kd.R_putn HO_269001.out (x58_3 : Int) (rd l0_1 t279)
                     rw [← Ny282.out] at HP71
                     have HQ71 := Aside0.mk HP71
                     clear HP71
                     refine start_ (n := 10) (S := fun w' => w'.cell? ⟨gb268, 0, none⟩ = some (u269000) ∧ w'.cell? ⟨gb268, 1, none⟩ = some (.slice (some ⟨go65, 0, none⟩) x269001_3.length co65) ∧ w'.cell? ⟨gb251, 0, none⟩ = some (.slice A0_0 l0_0.length c0_0) ∧ w'.cell? ⟨gb251, 1, none⟩ = some (.slice (some ad281) l0_1.length c0_1) ∧ w'.cell? (ad281.add (t279).toNat) = some (.int .i64 (rd l0_1 t279))) (ds := [9]) #[false, false, false, false, false, false, false, false, false, false] (by kernel_rfl) rfl rfl ⟨(blk_cell BK268.out 0).trans rfl, (blk_cell BK268.out 1).trans rfl, (blk_cell BK251.out 0).trans rfl, (blk_cell BK251.out 1).trans rfl, ((HB.out.cell (World.block_lt_of_cell? w _ hw281_0)).trans hw281_0)⟩ (fun hHeld => ?_); refine with_tabW tens_Turn.tab21 tens_Turn.bits21 (fun HT_ HW_ => ?_)
                     generalize wr.drew = w70 at HO_6 HO_12 HO_14 HO_269000 HO_269001 BK251 BK252 BK268 HB GG65 HQ71 hf65_0 hx281_0 hx65_0 hHeld ⊢
                     refine zp_ 0 (some 92) (h := ?_)
                     refine zp_ 2 (some 94) (h := ?_)
                     refine zp_ 3 (some 95) (h := ?_)
                     refine zp_ 5 (some 97) (h := ?_)
                     refine zt_ 1 (some 93) (hr := by rintro w' ⟨s0, s1, s2, s3, s4⟩; go_simp; with_reducible rfl) (h := ?_)
                     refine zt_ 4 (some 96) (hr := by rintro w' ⟨s0, s1, s2, s3, s4⟩; go_simp; with_reducible rfl) (h := ?_)
                     refine zp_ 6 (some 98) (h := ?_)
                     refine zt_ 7 (some 99) (hr := by rintro w' ⟨s0, s1, s2, s3, s4⟩; go_simp; with_reducible rfl) (h := ?_)
                     refine zp_ 8 (some 100) (h := ?_)
                     refine last_ (i := 9) (N := none) #[true, true, true, true, true, true, true, true, true, true] rfl rfl (one_of HT_.out (by kernel_rfl)) (by decide) (fun K hK => ?_)
                     refine skip_ (w1 := ?_) (by rfl) rfl ?_ ?_
                     rotate_left
                     ·go_simp
                      rfl
                     refine hK.out _ _ ?_
                     clear hK K
                     refine done_ (done_of HT_.out (by kernel_rfl)) ?_
                     try go_wp2
                     (try simp only [← hl6_3])
                     go_roundg k4
                     case measure => have := HJ2.out; have := HK2.out; have := HK3.out; have := HK4.out; omega
                     case rel => exact ⟨(x6_3), (wrap64 (x58_3 + 1)), (x269000_3), (y282), (u269000), (.slice (some ⟨go65, 0, none⟩) x269001_3.length co65), (by first | rfl | (simp; done) | (simp [*]; done)), H', ⟨by have := HJ2.out; have := HK2.out; have := HK3.out; have := HK4.out; omega⟩, ⟨by (try simp only [hl6_3]); (with_reducible repeat (first | apply Kd.R_alloc | apply Kd.R_drewN | apply Kd.R_drew)); exact Kd.R_mono (Kd.R_far (p := ⟨go65, (x58_3 : Int).toNat, none⟩) (Kd.R_types HO_6.out GG65.out (by decide)) (fun _ hk => hk.2) (.int .i64 (rd l0_1 t279))) (fun _ hk => hk.1.2.2)⟩, ⟨by (try simp only [hl6_3]); (with_reducible repeat (first | apply Kd.R_alloc | apply Kd.R_drewN | apply Kd.R_drew)); exact Kd.R_mono (Kd.R_far (p := ⟨go65, (x58_3 : Int).toNat, none⟩) (Kd.R_types HO_269000.out GG65.out (by decide)) (fun _ hk => hk.2) (.int .i64 (rd l0_1 t279))) (fun _ hk => by first | exact hk.1.1 | exact hk.1.2.2 | exact hk.1.2.1)⟩, ⟨by (try simp only [hl6_3]); (with_reducible repeat (first | apply Kd.R_alloc | apply Kd.R_drewN | apply Kd.R_drew)); exact HQ71.out⟩, ⟨by (try simp only [hl6_3]); (with_reducible repeat (first | refine blk_drewN ?_ _ | refine blk_drew ?_ | refine blk_alloc ?_ _)); refine blk_far ?_ (by have h_ := Kd.R_ne HO_269001.out BK251.out (by decide); intro e_; exact h_ (by rw [e_]; rfl)) _; (with_reducible repeat (first | refine blk_drewN ?_ _ | refine blk_drew ?_ | refine blk_alloc ?_ _)); exact BK251.out⟩, ⟨by (try simp only [hl6_3]); (with_reducible repeat (first | refine blk_drewN ?_ _ | refine blk_drew ?_ | refine blk_alloc ?_ _)); refine blk_far ?_ (by have h_ := Kd.R_ne HO_269001.out BK252.out (by decide); intro e_; exact h_ (by rw [e_]; rfl)) _; (with_reducible repeat (first | refine blk_drewN ?_ _ | refine blk_drew ?_ | refine blk_alloc ?_ _)); exact BK252.out⟩, ⟨by (try simp only [hl6_3]); (with_reducible repeat (first | refine blk_drewN ?_ _ | refine blk_drew ?_ | refine blk_alloc ?_ _)); refine blk_far ?_ (by have h_ := Kd.R_ne HO_269001.out BK268.out (by decide); intro e_; exact h_ (by rw [e_]; rfl)) _; (with_reducible repeat (first | refine blk_drewN ?_ _ | refine blk_drew ?_ | refine blk_alloc ?_ _)); exact BK268.out⟩, ⟨by repeat (first | (with_reducible first | exact HB.out | apply below_alloc | apply pw_below_drewN | apply below_drew1 | refine below_set ?_ GB65.out | refine below_set ?_ GE251.out | refine below_set ?_ GE252.out | refine below_set ?_ GE268.out) | exact HB.out)⟩⟩
                    ·rw [if_neg c64] at H
                     exact absurd H (by simp)
                   ·rw [if_neg c63] at H
                    exact absurd H (by simp)
                  ·rw [if_neg c62] at H
                   exact absurd H (by simp)
                 ·rw [if_neg c61] at H
                  exact absurd H (by simp)
             ·rw [if_neg c46] at H
              exact absurd H (by simp)
            ·rw [if_neg c45] at H
             exact absurd H (by simp)
           ·rw [if_neg c43] at H
            have c43b0 : decide (x58_3 < (t264.length : Int)) = false := decide_eq_false c43
            clear c43
            simp only [Option.some.injEq, Prod.mk.injEq] at H
            obtain ⟨rfl, rfl, rfl⟩ := H
            have hnb72 := NB268_251.out
            have hnc72 := NB251_268.out
            have hnb73 := NB268_252.out
            have hnc73 := NB252_268.out
            have hcz74_0 := zx_ (v := u269000) BK268 0
            have hcz74_1 := zx_ (v := u269001) BK268 1
            have hfz74_0 := blk_frozen BK268.out 0
            have hfz74_1 := blk_frozen BK268.out 1
            obtain ⟨Ao75, co75, eo75⟩ := Kd.R_slice HO_269000.out
            subst eo75
            have hnb76 := NB252_251.out
            have hnc76 := NB251_252.out
            have hcz77_0 := zx_ (v := .slice none 0 0) BK252 0
            have hcz77_1 := zx_ (v := .slice none 0 0) BK252 1
            have hfz77_0 := blk_frozen BK252.out 0
            have hfz77_1 := blk_frozen BK252.out 1
            obtain ⟨Ao78, co78, eo78⟩ := Kd.R_slice HO_269001.out
            subst eo78
            go_wp2
            refine bodyPost_ret (results_ct rfl _ _ gb252 27 #[.slice Ao75 x269000_3.length co75, .slice Ao78 x269001_3.length co78] (0, 0) _ rfl (by (with_reducible repeat (first | refine blk_drewN ?_ _ | refine blk_drew ?_ | refine blk_alloc ?_ _)); refine blk_put (cs := #[.slice Ao75 x269000_3.length co75, .slice none 0 0]) ?_ 1 _ rfl; (with_reducible repeat (first | refine blk_drewN ?_ _ | refine blk_drew ?_ | refine blk_alloc ?_ _)); refine blk_put (cs := #[.slice none 0 0, .slice none 0 0]) ?_ 0 _ rfl; (with_reducible repeat (first | refine blk_drewN ?_ _ | refine blk_drew ?_ | refine blk_alloc ?_ _)); exact BK252.out) Try.underlying27 rfl (by kernel_rfl)) rfl ?_
            exact ⟨_, _, by first | rfl | (simp [errW_none, errW_some] <;> rfl) | (simp [*, errW_none, errW_some] <;> rfl), zr_ (Kd.R_mono (Kd.R_far (p := ⟨gb252, 1, none⟩) (Kd.R_far (p := ⟨gb252, 0, none⟩) (Kd.R_types HO_269000.out BK252.out (by decide)) (fun _ hk => hk.2) (.slice Ao75 x269000_3.length co75)) (fun _ hk => hk.2) (.slice Ao78 x269001_3.length co78)) (fun _ hk => trivial)), zr_ (Kd.R_mono (Kd.R_far (p := ⟨gb252, 1, none⟩) (Kd.R_far (p := ⟨gb252, 0, none⟩) (Kd.R_types HO_269001.out BK252.out (by decide)) (fun _ hk => hk.2) (.slice Ao75 x269000_3.length co75)) (fun _ hk => hk.2) (.slice Ao78 x269001_3.length co78)) (fun _ hk => trivial)), zw3_ HB GE251 GE252 GE268⟩
     ·rw [if_neg c20] at H
      exact absurd H (by simp)
    ·rw [if_neg c19] at H
     exact absurd H (by simp)

end Go.Proofs.Ytbdhabpplidgfaa.PTensBack
