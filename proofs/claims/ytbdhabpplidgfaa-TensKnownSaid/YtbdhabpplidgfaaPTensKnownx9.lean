/- The functions that the law TensKnown reaches, as Lean functions, and that each call of the Go function does what its Lean function says, wherever that one answers. Written by a program of mine over the print of the kit; Lean checks it. -/
import Derived.Test.YtbdhabpplidgfaaPTensKnownx0
import Derived.Test.YtbdhabpplidgfaaPTensKnownx1
import Derived.Test.YtbdhabpplidgfaaPTensKnownx7
import Derived.Test.YtbdhabpplidgfaaPTensKnownx8
namespace Go.Proofs.Ytbdhabpplidgfaa.PTensKnown
open Go.RowKit Go.Proofs.YtbdhabpplidgfaaW.PrintWords Go.Proofs.YtbdhabpplidgfaaW.PrintLast Go.Proofs.YtbdhabpplidgfaaW.PrintMore
attribute [local go_sem] max2_int min2_int max_two min_two max_three min_three max_four min_four   -- for this text's walks alone
set_option linter.unusedVariables false
set_option linter.unusedSimpArgs false

/-! ### tens_Turn: function 25 -/
mutual
def tens_Turn.j0 : Nat → List Int → Bool → List Int → List Int → Option (List Int × List Int × Int)
 | 0, _, _, _, _ => none
 | k + 1, x1, x29, x290000, x290001 => if x29 = true then (some (([] : List Int), ([] : List Int), 1)) else (if 0 ≤ (x1.length : Int) then (if ((x1.length : Int) : Int).toNat ≤ 35184372088832 then (tens_Turn.l0 k x1 (List.replicate ((x1.length : Int) : Int).toNat 0) x1 (x1.length : Int) 0 x290000 x290001) else (none)) else (none))
def tens_Turn.l0 : Nat → List Int → List Int → List Int → Int → Int → List Int → List Int → Option (List Int × List Int × Int)
 | 0, _, _, _, _, _, _, _ => none
 | k + 1, x1, x6, x34, x35, x36, x290000, x290001 => if x36 < x35 then (if 0 ≤ x36 then (if x36 < (x34.length : Int) then (if 0 ≤ (rd x34 x36) then (if (rd x34 x36) < (x290000.length : Int) then (if x36 < (x6.length : Int) then (tens_Turn.l0 k x1 (x6.set (x36 : Int).toNat (rd x290000 (rd x34 x36))) x34 x35 (wrap64 (x36 + 1)) x290000 x290001) else (none)) else (none)) else (none)) else (none)) else (none)) else ((tens_New.f k x6 0).bind fun bt299 => (tens_Turn.l1 k x1 x6 (bt299.2.1.length : Int) 0 x290000 x290001 bt299.1 bt299.2.1))
def tens_Turn.l1 : Nat → List Int → List Int → Int → Int → List Int → List Int → List Int → List Int → Option (List Int × List Int × Int)
 | 0, _, _, _, _, _, _, _, _ => none
 | k + 1, x1, x6, x57, x58, x290000, x290001, x307000, x307001 => if x58 < x57 then ((shape_Place.f k x6 x58).bind fun bt307 => (if 0 ≤ (x1.length : Int) then (if ((x1.length : Int) : Int).toNat ≤ 35184372088832 then (tens_Turn.l2 k x1 x6 x58 bt307.1 (List.replicate ((x1.length : Int) : Int).toNat 0) x57 x58 x1 (x1.length : Int) 0 x290000 x290001 x307000 x307001) else (none)) else (none))) else (some (x307000, x307001, 0))
def tens_Turn.l2 : Nat → List Int → List Int → Int → List Int → List Int → Int → Int → List Int → Int → Int → List Int → List Int → List Int → List Int → Option (List Int × List Int × Int)
 | 0, _, _, _, _, _, _, _, _, _, _, _, _, _, _ => none
 | k + 1, x1, x6, x11, x12, x14, x57, x58, x70, x71, x72, x290000, x290001, x307000, x307001 => if x72 < x71 then (if 0 ≤ x72 then (if x72 < (x70.length : Int) then (if x72 < (x12.length : Int) then (if 0 ≤ (rd x70 x72) then (if (rd x70 x72) < (x14.length : Int) then (tens_Turn.l2 k x1 x6 x11 x12 (x14.set ((rd x70 x72) : Int).toNat (rd x12 x72)) x57 x58 x70 x71 (wrap64 (x72 + 1)) x290000 x290001 x307000 x307001) else (none)) else (none)) else (none)) else (none)) else (none)) else ((shape_At.f k x290000 x14).bind fun bt317 => (if 0 ≤ bt317.1 then (if bt317.1 < (x290001.length : Int) then (if 0 ≤ x11 then (if x11 < (x307001.length : Int) then (tens_Turn.l1 k x1 x6 x57 (wrap64 (x58 + 1)) x290000 x290001 x307000 (x307001.set (x11 : Int).toNat (rd x290001 bt317.1))) else (none)) else (none)) else (none)) else (none)))
end
def tens_Turn.f (k : Nat) (l0_0 : List Int) (l0_1 : List Int) (l1 : List Int) : Option (List Int × List Int × Int) := (tens_Good.f k l0_0 l0_1).bind fun t291 => (if t291 = true then ((tens_permutes.f k l1 (l0_0.length : Int)).bind fun t292 => (tens_Turn.j0 k l1 (!t292) l0_0 l0_1)) else (tens_Turn.j0 k l1 true l0_0 l0_1))
theorem tens_Turn.mono_l : ∀ k, (∀ y0 y1 y2 y3, LeO (tens_Turn.j0 k y0 y1 y2 y3) (tens_Turn.j0 (k + 1) y0 y1 y2 y3)) ∧ (∀ y0 y1 y2 y3 y4 y5 y6, LeO (tens_Turn.l0 k y0 y1 y2 y3 y4 y5 y6) (tens_Turn.l0 (k + 1) y0 y1 y2 y3 y4 y5 y6)) ∧ (∀ y0 y1 y2 y3 y4 y5 y6 y7, LeO (tens_Turn.l1 k y0 y1 y2 y3 y4 y5 y6 y7) (tens_Turn.l1 (k + 1) y0 y1 y2 y3 y4 y5 y6 y7)) ∧ (∀ y0 y1 y2 y3 y4 y5 y6 y7 y8 y9 y10 y11 y12 y13, LeO (tens_Turn.l2 k y0 y1 y2 y3 y4 y5 y6 y7 y8 y9 y10 y11 y12 y13) (tens_Turn.l2 (k + 1) y0 y1 y2 y3 y4 y5 y6 y7 y8 y9 y10 y11 y12 y13))
 | 0 => ⟨fun _ _ _ _ r h => by simp [tens_Turn.j0] at h, fun _ _ _ _ _ _ _ r h => by simp [tens_Turn.l0] at h, fun _ _ _ _ _ _ _ _ r h => by simp [tens_Turn.l1] at h, fun _ _ _ _ _ _ _ _ _ _ _ _ _ _ r h => by simp [tens_Turn.l2] at h⟩
 | k + 1 => by
  obtain ⟨ih0, ih1, ih2, ih3⟩ := tens_Turn.mono_l k
  refine ⟨?_, ?_, ?_, ?_⟩
  ·intro y0 y1 y2 y3
   unfold tens_Turn.j0
   repeat' first
   | (with_reducible exact ih0 _ _ _ _)
   | (with_reducible exact ih1 _ _ _ _ _ _ _)
   | (with_reducible exact ih2 _ _ _ _ _ _ _ _)
   | (with_reducible exact ih3 _ _ _ _ _ _ _ _ _ _ _ _ _ _)
   | (with_reducible exact LeO.refl _)
   | (with_reducible exact LeO.none _)
   | (with_reducible refine LeO.ite ?_ ?_)
   | (with_reducible refine LeO.bind ?_ (fun _ => ?_))
   | exact ih0 _ _ _ _
   | exact ih1 _ _ _ _ _ _ _
   | exact ih2 _ _ _ _ _ _ _ _
   | exact ih3 _ _ _ _ _ _ _ _ _ _ _ _ _ _
   | exact LeO.none _
   | refine LeO.ite ?_ ?_
   | refine LeO.bind ?_ (fun _ => ?_)
  ·intro y0 y1 y2 y3 y4 y5 y6
   unfold tens_Turn.l0
   repeat' first
   | (with_reducible exact ih0 _ _ _ _)
   | (with_reducible exact ih1 _ _ _ _ _ _ _)
   | (with_reducible exact ih2 _ _ _ _ _ _ _ _)
   | (with_reducible exact ih3 _ _ _ _ _ _ _ _ _ _ _ _ _ _)
   | (with_reducible exact tens_New.mono _ _ _)
   | (with_reducible exact LeO.refl _)
   | (with_reducible exact LeO.none _)
   | (with_reducible refine LeO.ite ?_ ?_)
   | (with_reducible refine LeO.bind ?_ (fun _ => ?_))
   | exact ih0 _ _ _ _
   | exact ih1 _ _ _ _ _ _ _
   | exact ih2 _ _ _ _ _ _ _ _
   | exact ih3 _ _ _ _ _ _ _ _ _ _ _ _ _ _
   | exact tens_New.mono _ _ _
   | exact LeO.none _
   | refine LeO.ite ?_ ?_
   | refine LeO.bind ?_ (fun _ => ?_)
  ·intro y0 y1 y2 y3 y4 y5 y6 y7
   unfold tens_Turn.l1
   repeat' first
   | (with_reducible exact ih0 _ _ _ _)
   | (with_reducible exact ih1 _ _ _ _ _ _ _)
   | (with_reducible exact ih2 _ _ _ _ _ _ _ _)
   | (with_reducible exact ih3 _ _ _ _ _ _ _ _ _ _ _ _ _ _)
   | (with_reducible exact shape_Place.mono _ _ _)
   | (with_reducible exact LeO.refl _)
   | (with_reducible exact LeO.none _)
   | (with_reducible refine LeO.ite ?_ ?_)
   | (with_reducible refine LeO.bind ?_ (fun _ => ?_))
   | exact ih0 _ _ _ _
   | exact ih1 _ _ _ _ _ _ _
   | exact ih2 _ _ _ _ _ _ _ _
   | exact ih3 _ _ _ _ _ _ _ _ _ _ _ _ _ _
   | exact shape_Place.mono _ _ _
   | exact LeO.none _
   | refine LeO.ite ?_ ?_
   | refine LeO.bind ?_ (fun _ => ?_)
  ·intro y0 y1 y2 y3 y4 y5 y6 y7 y8 y9 y10 y11 y12 y13
   unfold tens_Turn.l2
   repeat' first
   | (with_reducible exact ih0 _ _ _ _)
   | (with_reducible exact ih1 _ _ _ _ _ _ _)
   | (with_reducible exact ih2 _ _ _ _ _ _ _ _)
   | (with_reducible exact ih3 _ _ _ _ _ _ _ _ _ _ _ _ _ _)
   | (with_reducible exact shape_At.mono _ _ _)
   | (with_reducible exact LeO.refl _)
   | (with_reducible exact LeO.none _)
   | (with_reducible refine LeO.ite ?_ ?_)
   | (with_reducible refine LeO.bind ?_ (fun _ => ?_))
   | exact ih0 _ _ _ _
   | exact ih1 _ _ _ _ _ _ _
   | exact ih2 _ _ _ _ _ _ _ _
   | exact ih3 _ _ _ _ _ _ _ _ _ _ _ _ _ _
   | exact shape_At.mono _ _ _
   | exact LeO.none _
   | refine LeO.ite ?_ ?_
   | refine LeO.bind ?_ (fun _ => ?_)
theorem tens_Turn.mono : ∀ a0 a1 a2 k, LeO (tens_Turn.f k a0 a1 a2) (tens_Turn.f (k + 1) a0 a1 a2) := by
 intro a0 a1 a2 k
 obtain ⟨ih0, ih1, ih2, ih3⟩ := tens_Turn.mono_l k
 unfold tens_Turn.f
 repeat' first
   | (with_reducible exact ih0 _ _ _ _)
   | (with_reducible exact ih1 _ _ _ _ _ _ _)
   | (with_reducible exact ih2 _ _ _ _ _ _ _ _)
   | (with_reducible exact ih3 _ _ _ _ _ _ _ _ _ _ _ _ _ _)
   | (with_reducible exact tens_Good.mono _ _ _)
   | (with_reducible exact tens_permutes.mono _ _ _)
   | (with_reducible exact LeO.refl _)
   | (with_reducible exact LeO.none _)
   | (with_reducible refine LeO.ite ?_ ?_)
   | (with_reducible refine LeO.bind ?_ (fun _ => ?_))
   | exact ih0 _ _ _ _
   | exact ih1 _ _ _ _ _ _ _
   | exact ih2 _ _ _ _ _ _ _ _
   | exact ih3 _ _ _ _ _ _ _ _ _ _ _ _ _ _
   | exact tens_Good.mono _ _ _
   | exact tens_permutes.mono _ _ _
   | exact LeO.none _
   | refine LeO.ite ?_ ?_
   | refine LeO.bind ?_ (fun _ => ?_)
def tens_Turn.T21 : Bool × List (List Nat × List Nat) := (true, [([], []), ([0], [0]), ([], []), ([], []), ([3], [3]), ([], []), ([4, 5], [4, 5]), ([6], [6]), ([1, 2, 0, 1, 2, 3, 4, 5, 6, 7], [1, 2]), ([8, 7, 0, 1, 2, 3, 4, 5, 6, 7], [7, 8])])
def tens_Turn.B21 : List Nat := [0, 1, 0, 0, 8, 0, 56, 120, 255, 511]
theorem tens_Turn.tab21 : rtab .any (opsOf Try.f25 21) = tens_Turn.T21 := by kernel_rfl
theorem tens_Turn.bits21 : waitsOk tens_Turn.T21.2 tens_Turn.B21 = true := by kernel_rfl
set_option maxHeartbeats 8000000 in
set_option maxRecDepth 100000 in
theorem tens_Turn.calls (k : Nat) (A0_0 : Option Addr) (c0_0 : Nat) (l0_0 : List Int) (A0_1 : Option Addr) (c0_1 : Nat) (l0_1 : List Int) (A1 : Option Addr) (c1 : Nat) (l1 : List Int) (r1 : List Int) (r2 : List Int) (r3 : Int) (w : World) (hr0_0 : Kd.C (Kd.int .i64) w A0_0 l0_0.length l0_0) (hc0_0 : l0_0.length ≤ c0_0) (hr0_1 : Kd.C (Kd.int .i64) w A0_1 l0_1.length l0_1) (hc0_1 : l0_1.length ≤ c0_1) (hr1 : Kd.C (Kd.int .i64) w A1 l1.length l1) (hc1 : l1.length ≤ c1) (h : tens_Turn.f k l0_0 l0_1 l1 = some (r1, r2, r3)) :
  Calls Try.prog 25 #[.agg #[.slice A0_0 l0_0.length c0_0, .slice A0_1 l0_1.length c0_1], .slice A1 l1.length c1] w fun e w' => ∃ v0_ v1_ : Value, e = .returned (.tuple #[.agg #[v0_, v1_], .int .i64 r3]) ∧ Kd.R (Kd.int .i64) 3 w' w.heap.size (fun _ => True) v0_ r1 ∧ Kd.R (Kd.int .i64) 23 w' w.heap.size (fun _ => True) v1_ r2 ∧ Below w.heap.size w w' := by
 have hu27 := Try.underlying27
 have HR0_0 := Aside0.mk hr0_0
 have HC0_0 := Aside0.mk hc0_0
 clear hr0_0 hc0_0
 have HR0_1 := Aside0.mk hr0_1
 have HC0_1 := Aside0.mk hc0_1
 clear hr0_1 hc0_1
 have HR1 := Aside0.mk hr1
 have HC1 := Aside0.mk hc1
 clear hr1 hc1
 have HB := Aside0.mk (Below.refl w.heap.size w)
 have H : ((tens_Good.f k l0_0 l0_1).bind fun t291 => (if t291 = true then ((tens_permutes.f k l1 (l0_0.length : Int)).bind fun t292 => (tens_Turn.j0 k l1 (!t292) l0_0 l0_1)) else (tens_Turn.j0 k l1 true l0_0 l0_1))) = some (r1, r2, r3) := h
 clear h
 have HC3 := Aside0.mk H
 clear H
 go_enter Try.func25, Try.ntmps25
 go_upto_region 1 with (first | ((with_reducible refine gate_dst (N := 2) rfl ?_); (try (refine gate_guard (by rfl) ?_; dsimp only)); refine box_event ?hg (N := 2) ?hd (cs := #[.slice A0_0 l0_0.length c0_0, .slice A0_1 l0_1.length c0_1]) (t := 27) ?hr ?_; (case hd => rfl); (case hg => rfl); (case hr => first | (go_simp; done) | (go_simp; rfl)); intro gb289 hg w4 hbox hb; have BK289 := Aside0.mk (hbox); have GW289 := Aside0.mk (zs_ hg (zw0_ HB)); have GE289 := Aside0.mk (zs_ hg (zw0_ HB)); replace HB := Aside0.mk (below_step (zw0_ HB) hb); clear hb hbox hg) | ((with_reducible refine gate_dst (N := 4) rfl ?_); (try (refine gate_guard (by rfl) ?_; dsimp only)); refine box_event ?hg (N := 4) ?hd (cs := #[.slice none 0 0, .slice none 0 0]) (t := 27) ?hr ?_; (case hd => rfl); (case hg => rfl); (case hr => first | (go_simp; done) | (go_simp; rfl)); intro gb290 hg w5 hbox hb; have BK290 := Aside0.mk (hbox); have GW290 := Aside0.mk (zs_ hg (zw1_ HB GE289)); have GE290 := Aside0.mk (zs_ hg (zw1_ HB GE289)); replace HB := Aside0.mk (below_step (zw1_ HB GE289) hb); have NB289_290 := Aside0.mk (zn_ hg BK289); have NB290_289 := Aside0.mk (zm_ hg BK289); replace BK289 := za_ BK289 hb; clear hb hbox hg))
 (try simp only [Act.put, List.setIfInBounds_toArray, List.set_cons_zero, List.set_cons_succ])
 go_cut [29] (fun v29 wc => ∃ (kq : Nat) (x29_2 : Bool), v29 = .bool x29_2 ∧ Aside0 (tens_Turn.j0 kq l1 x29_2 l0_0 l0_1 = some (r1, r2, r3)) ∧ Aside0 (kq ≤ k) ∧ Aside0 (wc.heap[gb289]? = some (.cells #[(.slice A0_0 l0_0.length c0_0), (.slice A0_1 l0_1.length c0_1)] 27 (0, 0))) ∧ Aside0 (wc.heap[gb290]? = some (.cells #[(.slice none 0 0), (.slice none 0 0)] 27 (0, 0))) ∧ Aside0 (Below w.heap.size w wc))
 case first =>
  have H := HC3.out
  clear HC3
  replace H := Option.bind_eq_some_iff.mp H
  obtain ⟨t291, A60, H⟩ := H
  (try dsimp only at H)
  have A6 := Aside0.mk A60
  clear A60
  by_cases c7 : t291 = true
  rotate_left
  ·replace c7 := Bool.eq_false_iff.mpr c7
   subst c7
   have H1 : (tens_Turn.j0 k l1 true l0_0 l0_1) = some (r1, r2, r3) := by rw [if_neg (show ¬ (false = true) by decide)] at H; exact H
   clear H
   have H := H1
   clear H1
   have H' := Aside0.mk H
   clear H
   have hnb13 := NB289_290.out
   have hnc13 := NB290_289.out
   have hcz14_0 := zx_ (v := .slice A0_0 l0_0.length c0_0) BK289 0
   have hcz14_1 := zx_ (v := .slice A0_1 l0_1.length c0_1) BK289 1
   have hfz14_0 := blk_frozen BK289.out 0
   have hfz14_1 := blk_frozen BK289.out 1
   go_wp2_with (first | ((with_reducible refine gate_callee (f := 16) rfl ?_); refine zg_ (some 20) Try.func16 #[.agg #[.slice A0_0 l0_0.length c0_0, .slice A0_1 l0_1.length c0_1]] (h := ?_); (with_reducible refine (tens_Good.calls k _ _ l0_0 _ _ l0_1 false _ ?side1 ?side2 ?side3 ?side4 A6.out).mono ?_); (case side1 => exact zk_ (Kd.C_below HR0_0.out HB.out)); (case side2 => exact HC0_0.out); (case side3 => exact zk_ (Kd.C_below HR0_1.out HB.out)); (case side4 => exact HC0_1.out); rintro e w15 ⟨rfl, hb⟩; refine ⟨_, rfl, ?_⟩; replace BK289 := za_ BK289 hb; replace BK290 := za_ BK290 hb; replace HB := Aside0.mk (below_step (zw2_ HB GE289 GE290) hb); (try clear hb)))
   go_meet
   case rel => exact ⟨_, (true), z1_, H', ⟨by first | omega | exact Nat.le_refl _⟩, ⟨zb_ BK289⟩, ⟨zb_ BK290⟩, ⟨zw2_ HB GE289 GE290⟩⟩
  subst c7
  have H1 := H
  rw [if_pos rfl] at H1
  clear H
  have H := H1
  clear H1
  replace H := Option.bind_eq_some_iff.mp H
  obtain ⟨t292, A80, H⟩ := H
  replace H : (tens_Turn.j0 k l1 (!t292) l0_0 l0_1) = some (r1, r2, r3) := H
  have A8 := Aside0.mk A80
  clear A80
  have H' := Aside0.mk H
  clear H
  have hnb9 := NB289_290.out
  have hnc9 := NB290_289.out
  have hcz10_0 := zx_ (v := .slice A0_0 l0_0.length c0_0) BK289 0
  have hcz10_1 := zx_ (v := .slice A0_1 l0_1.length c0_1) BK289 1
  have hfz10_0 := blk_frozen BK289.out 0
  have hfz10_1 := blk_frozen BK289.out 1
  go_wp2_with (first | ((with_reducible refine gate_callee (f := 16) rfl ?_); refine zg_ (some 20) Try.func16 #[.agg #[.slice A0_0 l0_0.length c0_0, .slice A0_1 l0_1.length c0_1]] (h := ?_); (with_reducible refine (tens_Good.calls k _ _ l0_0 _ _ l0_1 true _ ?side1 ?side2 ?side3 ?side4 A6.out).mono ?_); (case side1 => exact zk_ (Kd.C_below HR0_0.out HB.out)); (case side2 => exact HC0_0.out); (case side3 => exact zk_ (Kd.C_below HR0_1.out HB.out)); (case side4 => exact HC0_1.out); rintro e w11 ⟨rfl, hb⟩; refine ⟨_, rfl, ?_⟩; replace BK289 := za_ BK289 hb; replace BK290 := za_ BK290 hb; replace HB := Aside0.mk (below_step (zw2_ HB GE289 GE290) hb); (try clear hb); have hcz12_0 := zx_ (v := .slice A0_0 l0_0.length c0_0) BK289 0; have hcz12_1 := zx_ (v := .slice A0_1 l0_1.length c0_1) BK289 1; have hfz12_0 := blk_frozen BK289.out 0; have hfz12_1 := blk_frozen BK289.out 1) | (go_at_call 51; (with_reducible refine (tens_permutes.calls k _ _ l1 (l0_0.length : Int) t292 _ ?side1 ?side2 A8.out).mono ?_); (case side1 => exact zk_ (Kd.C_below HR1.out HB.out)); (case side2 => exact HC1.out); rintro e w' ⟨rfl, ⟨nd, rfl⟩⟩))
  go_meet
  case rel => exact ⟨_, (!t292), z1_, H', ⟨by first | omega | exact Nat.le_refl _⟩, ⟨zb_ BK289⟩, ⟨zb_ BK290⟩, ⟨zw2_ HB GE289 GE290⟩⟩
 case rest =>
  clear HC3
  try clear c1
  try clear c2
  try clear p2
  try clear c7
  try clear c9
  try clear c13
  try clear hcz10_0
  try clear hcz10_1
  try clear hcz12_0
  try clear hcz12_1
  try clear hcz14_0
  try clear hcz14_1
  try clear hfz10_0
  try clear hfz10_1
  try clear hfz12_0
  try clear hfz12_1
  try clear hfz14_0
  try clear hfz14_1
  obtain ⟨kq, x29_2, rfl, HA, HJ2, BK289, BK290, HB⟩ := hcut
  cases kq with
  | zero => exact absurd HA.out (by simp [tens_Turn.j0])
  | succ kj2 =>
   have H := HA.out
   clear HA
   simp only [tens_Turn.j0] at H
   by_cases c16 : x29_2 = true
   ·subst c16
    have H1 : (some (([] : List Int), ([] : List Int), 1)) = some (r1, r2, r3) := by rw [if_pos rfl] at H; exact H
    clear H
    have H := H1
    clear H1
    simp only [Option.some.injEq, Prod.mk.injEq] at H
    obtain ⟨rfl, rfl, rfl⟩ := H
    have hnb17 := NB290_289.out
    have hnc17 := NB289_290.out
    have hcz18_0 := zx_ (v := .slice none 0 0) BK290 0
    have hcz18_1 := zx_ (v := .slice none 0 0) BK290 1
    have hfz18_0 := blk_frozen BK290.out 0
    have hfz18_1 := blk_frozen BK290.out 1
    go_wp2
    refine bodyPost_ret (results_ct rfl _ _ gb290 27 #[.slice none 0 0, .slice none 0 0] (0, 0) _ rfl (zo2_ BK290) Try.underlying27 rfl (by kernel_rfl)) rfl ?_
    exact ⟨_, _, z0_, z2_, z2_, zw2_ HB GE289 GE290⟩
   replace c16 := Bool.eq_false_iff.mpr c16
   subst c16
   have H1 := H
   rw [if_neg (show ¬ (false = true) by decide)] at H1
   clear H
   have H := H1
   clear H1
   by_cases c19 : 0 ≤ (l1.length : Int)
   rotate_left
   ·rw [if_neg c19] at H
    exact absurd H (by simp)
   rw [if_pos c19] at H
   have c19b0 := eq_true c19
   have c19b1 : decide (0 ≤ (l1.length : Int)) = true := decide_eq_true c19
   clear c19
   by_cases c20 : ((l1.length : Int) : Int).toNat ≤ 35184372088832
   rotate_left
   ·rw [if_neg c20] at H
    exact absurd H (by simp)
   rw [if_pos c20] at H
   have c20b0 := eq_true c20
   have c20b1 : decide (((l1.length : Int) : Int).toNat ≤ 35184372088832) = true := decide_eq_true c20
   clear c20
   obtain ⟨y293, hy293⟩ : ∃ y_ : List Int, y_ = (List.replicate ((l1.length : Int) : Int).toNat 0) := ⟨_, rfl⟩
   replace H : (tens_Turn.l0 kj2 l1 y293 l1 (l1.length : Int) 0 l0_0 l0_1) = some (r1, r2, r3) := by first | (rw [hy293]; with_reducible exact H) | (have H2_ := (Option.bind_some _ _).symm.trans H; rw [hy293]; with_reducible exact H2_) | (have H2_ := (Option.bind_some _ _).symm.trans H; with_reducible exact H2_) | with_reducible exact H | (rw [hy293]; exact H) | exact H
   have Ny293 := Aside0.mk hy293
   clear hy293
   have H' := Aside0.mk H
   clear H
   go_wp2_with (first | ((with_reducible refine gate_dst (N := 33) rfl ?_); (try (refine gate_guard (by rfl) ?_; dsimp only)); refine Kd.R_make (Kd.int .i64) _ 3 rfl (N := 33) rfl 22 _ _ rfl (l1.length : Int) rfl rfl Try.underlying22 (.int .i64 0) 8 info3 rfl (by decide) (by omega) 0 (ok := fun _ => True) (okp := fun _ => True) rfl (fun _ hk => hk) trivial (of_decide_eq_true (by first | (with_reducible assumption) | assumption)) (Nat.le_trans (Nat.mul_le_mul_right _ (of_decide_eq_true (by first | (with_reducible assumption) | assumption) : (l1.length : Int).toNat ≤ 35184372088832)) (by omega)) (Below.refl _ _) (Nat.le_refl _) ?_; intro v294 w21 ho22 hb hg_ hnew_; clear hg_ hnew_; (first | rw [← Ny293.out] at ho22 | (simp only [Int.reduceToNat] at ho22; rw [← Ny293.out] at ho22)); have HO295 := Aside0.mk (Kd.R_lower ho22 (below_size (zw2_ HB GE289 GE290))); replace BK289 := za_ BK289 hb; replace BK290 := za_ BK290 hb; replace HB := Aside0.mk (below_step (zw2_ HB GE289 GE290) hb); clear hb ho22))
   go_loopg [36] kj2 (fun kq v36 w' => ∃ (x6_2 : List Int) (x36_2 : Int), v36 = .int .i64 x36_2 ∧ Aside0 (tens_Turn.l0 kq l1 x6_2 l1 (l1.length : Int) x36_2 l0_0 l0_1 = some (r1, r2, r3)) ∧ Aside0 (kq ≤ kj2) ∧ Aside0 (Kd.R (Kd.int .i64) 3 w' w.heap.size (fun _ => True) v294 x6_2) ∧ Aside0 (w'.heap[gb289]? = some (.cells #[(.slice A0_0 l0_0.length c0_0), (.slice A0_1 l0_1.length c0_1)] 27 (0, 0))) ∧ Aside0 (w'.heap[gb290]? = some (.cells #[(.slice none 0 0), (.slice none 0 0)] 27 (0, 0))) ∧ Aside0 (Below w.heap.size w w'))
   case atStart => exact ⟨(y293), (0), z1_, H', ⟨Nat.le_refl _⟩, ⟨zr_ HO295.out⟩, ⟨zb_ BK289⟩, ⟨zb_ BK290⟩, ⟨zw2_ HB GE289 GE290⟩⟩
   case round =>
    clear H'
    try clear c1
    try clear c2
    try clear p2
    try clear c7
    try clear c9
    try clear c13
    try clear c16
    try clear c17
    try clear c19
    try clear c19b0
    try clear c19b1
    try clear c20
    try clear c20b0
    try clear c20b1
    try clear hcz10_0
    try clear hcz10_1
    try clear hcz12_0
    try clear hcz12_1
    try clear hcz14_0
    try clear hcz14_1
    try clear hcz18_0
    try clear hcz18_1
    try clear hfz10_0
    try clear hfz10_1
    try clear hfz12_0
    try clear hfz12_1
    try clear hfz14_0
    try clear hfz14_1
    try clear hfz18_0
    try clear hfz18_1
    try clear p2
    obtain ⟨x6_2, x36_2, rfl, HA, HK2, HO_6, BK289, BK290, HB⟩ := hrel
    cases gk with
    | zero => exact absurd HA.out (by simp [tens_Turn.l0])
    | succ k2 =>
     have H := HA.out
     clear HA
     simp only [tens_Turn.l0] at H
     by_cases c23 : x36_2 < (l1.length : Int)
     ·rw [if_pos c23] at H
      have c23b0 : decide (x36_2 < (l1.length : Int)) = true := decide_eq_true c23
      clear c23
      by_cases c24 : 0 ≤ x36_2
      rotate_left
      ·rw [if_neg c24] at H
       exact absurd H (by simp)
      rw [if_pos c24] at H
      have c24b0 : decide (0 ≤ x36_2) = true := decide_eq_true c24
      clear c24
      by_cases c25 : x36_2 < (l1.length : Int)
      rotate_left
      ·rw [if_neg c25] at H
       exact absurd H (by simp)
      rw [if_pos c25] at H
      have c25b0 : decide (x36_2 < (l1.length : Int)) = true := decide_eq_true c25
      clear c25
      by_cases c26 : 0 ≤ (rd l1 x36_2)
      rotate_left
      ·rw [if_neg c26] at H
       exact absurd H (by simp)
      rw [if_pos c26] at H
      have c26b0 : decide (0 ≤ (rd l1 x36_2)) = true := decide_eq_true c26
      clear c26
      by_cases c27 : (rd l1 x36_2) < (l0_0.length : Int)
      rotate_left
      ·rw [if_neg c27] at H
       exact absurd H (by simp)
      rw [if_pos c27] at H
      have c27b0 : decide ((rd l1 x36_2) < (l0_0.length : Int)) = true := decide_eq_true c27
      clear c27
      by_cases c28 : x36_2 < (x6_2.length : Int)
      rotate_left
      ·rw [if_neg c28] at H
       exact absurd H (by simp)
      rw [if_pos c28] at H
      have c28b0 : decide (x36_2 < (x6_2.length : Int)) = true := decide_eq_true c28
      clear c28
      obtain ⟨y298, hy298⟩ : ∃ y_ : List Int, y_ = (x6_2.set (x36_2 : Int).toNat (rd l0_0 (rd l1 x36_2))) := ⟨_, rfl⟩
      replace H : (tens_Turn.l0 k2 l1 y298 l1 (l1.length : Int) (wrap64 (x36_2 + 1)) l0_0 l0_1) = some (r1, r2, r3) := by first | (rw [hy298]; with_reducible exact H) | (have H2_ := (Option.bind_some _ _).symm.trans H; rw [hy298]; with_reducible exact H2_) | (have H2_ := (Option.bind_some _ _).symm.trans H; with_reducible exact H2_) | with_reducible exact H | (rw [hy298]; exact H) | exact H
      have Ny298 := Aside0.mk hy298
      clear hy298
      have H' := Aside0.mk H
      clear H
      have p296 : 0 ≤ (x36_2 : Int) := of_decide_eq_true (by first | (with_reducible assumption) | assumption)
      have q296 : x36_2 < (l1.length : Int) := of_decide_eq_true (by first | (with_reducible assumption) | assumption)
      obtain ⟨ad296, e296, hx296_0⟩ := Kd.at_int HR1.out x36_2 p296 q296
      cases e296
      replace hx296_0 := (HB.out.cell (World.block_lt_of_cell? w _ hx296_0)).trans hx296_0
      replace p296 := eq_true p296
      replace q296 := eq_true q296
      have hnb30 := NB289_290.out
      have hnc30 := NB290_289.out
      have hcz31_0 := zx_ (v := .slice A0_0 l0_0.length c0_0) BK289 0
      have hcz31_1 := zx_ (v := .slice A0_1 l0_1.length c0_1) BK289 1
      have hfz31_0 := blk_frozen BK289.out 0
      have hfz31_1 := blk_frozen BK289.out 1
      have p297 : 0 ≤ ((rd l1 x36_2) : Int) := of_decide_eq_true (by first | (with_reducible assumption) | assumption)
      have q297 : (rd l1 x36_2) < (l0_0.length : Int) := of_decide_eq_true (by first | (with_reducible assumption) | assumption)
      obtain ⟨ad297, e297, hx297_0⟩ := Kd.at_int HR0_0.out (rd l1 x36_2) p297 q297
      cases e297
      replace hx297_0 := (HB.out.cell (World.block_lt_of_cell? w _ hx297_0)).trans hx297_0
      replace p297 := eq_true p297
      replace q297 := eq_true q297
      have p29 : 0 ≤ (x36_2 : Int) := of_decide_eq_true (by first | (with_reducible assumption) | assumption)
      have q29 : (x36_2 : Int) < ((x6_2.length : Int) : Int) := of_decide_eq_true (by first | (with_reducible assumption) | assumption)
      obtain ⟨go29, co29, eo29, gb29, gl29, cl29, HG29⟩ := Kd.R_form HO_6.out (by omega)
      (first | cases eo29 | (injection eo29 with ea_ en_ ec_; (first | subst ea_ | (injection ea_ with ea_; subst ea_)); subst ec_; clear en_))
      have GB29 := Aside0.mk gb29
      have GG29 := Aside0.mk HG29
      clear gb29 gl29 HG29
      obtain ⟨hx29_0, hf29_0⟩ := Kd.R_celln 0 HO_6.out (x36_2 : Int) p29 q29
      replace p29 := eq_true p29
      replace q29 := eq_true q29
      have HP32 := Kd.R_putg HO_6.out (x36_2 : Int) (rd l0_0 (rd l1 x36_2))
      go_wp2_with (first | ((with_reducible refine gate_store (t := 3) (p := 48) rfl ?_); refine store_event (t := 3) (p := 48) (v := ?vo_w33) (w1 := (wr.setCell ⟨go29, (x36_2 : Int).toNat, none⟩ (.int .i64 (rd l0_0 (rd l1 x36_2))))) ?hg ?ho ?hn ?hr ?_; (case ho => rfl); (case hg => rfl); (case hn => rfl); (case hr => first | (go_simp; done) | (go_simp; rfl)); intro w33 hw; have hg : wr.grownBy w33 (some go29) := (by rw [hw]; exact HP32.2); have hp_ : Kd.R (Kd.int .i64) 3 w33 w.heap.size (fun _ => True) (.slice (some ⟨go29, 0, none⟩) x6_2.length co29) y298 := (by rw [hw, Ny298.out]; exact HP32.1); clear HP32; replace BK289 := Aside0.mk (zh_ BK289 hg (Kd.R_ne HO_6.out BK289.out (by decide))); replace BK290 := Aside0.mk (zh_ BK290 hg (Kd.R_ne HO_6.out BK290.out (by decide))); replace HO_6 := Aside0.mk (hp_); replace HB := Aside0.mk ((by rw [hw]; exact below_set (HB.out) GB29.out : Below w.heap.size w w33)); clear hg hw hp_))
      go_roundg k2
      case measure => have := HJ2.out; have := HK2.out; omega
      case rel => exact ⟨(y298), (wrap64 (x36_2 + 1)), z1_, H', ⟨by have := HJ2.out; have := HK2.out; omega⟩, ⟨zr_ HO_6.out⟩, ⟨zb_ BK289⟩, ⟨zb_ BK290⟩, ⟨zw2_ HB GE289 GE290⟩⟩
     rw [if_neg c23] at H
     have c23b0 : decide (x36_2 < (l1.length : Int)) = false := decide_eq_false c23
     clear c23
     replace H := Option.bind_eq_some_iff.mp H
     obtain ⟨⟨t299, t302, t305⟩, A340, H⟩ := H
     replace H : (tens_Turn.l1 k2 l1 x6_2 (t302.length : Int) 0 l0_0 l0_1 t299 t302) = some (r1, r2, r3) := H
     have A34 := Aside0.mk A340
     clear A340
     have H' := Aside0.mk H
     clear H
     obtain ⟨Ao35, co35, eo35⟩ := Kd.R_slice HO_6.out
     subst eo35
     go_wp2_with (first | ((with_reducible refine gate_callee (f := 12) rfl ?_); refine zg_ (some 52) Try.func12 #[.slice Ao35 x6_2.length co35, .int .i64 0] (h := ?_); (with_reducible refine (tens_New.calls k2 _ _ x6_2 0 t299 t302 t305 _ ?side1 ?side2 A34.out).mono ?_); (case side1 => exact zk_ ((Kd.R_reads' HO_6.out).2.2)); (case side2 => exact (Kd.R_reads' HO_6.out).2.1); rintro e w36 ⟨v300, v303, rfl, ho0, ho1, hb⟩; refine ⟨_, rfl, ?_⟩; have HO301 := Aside0.mk (Kd.R_lower (Kd.R_new' ho0 (Kd.R_lt (zr_ HO_6.out))) (below_size (zw2_ HB GE289 GE290))); replace HO_6 := ze_ HO_6 ho0 hb; have HO304 := Aside0.mk (Kd.R_lower ho1 (below_size (zw2_ HB GE289 GE290))); replace BK289 := za_ BK289 hb; replace BK290 := za_ BK290 hb; replace HB := Aside0.mk (below_step (zw2_ HB GE289 GE290) hb); (try clear hb); (try clear ho0); (try clear ho1)) | ((with_reducible refine gate_dst (N := 9) rfl ?_); (try (refine gate_guard (by rfl) ?_; dsimp only)); refine box_event ?hg (N := 9) ?hd (cs := #[.slice none 0 0, .slice none 0 0]) (t := 27) ?hr ?_; (case hd => rfl); (case hg => rfl); (case hr => first | (go_simp; done) | (go_simp; rfl)); intro gb306 hg w37 hbox hb; replace HO_6 := zy_ HO_6 hb; replace HO301 := zy_ HO301 hb; replace HO304 := zy_ HO304 hb; have BK306 := Aside0.mk (hbox); have GW306 := Aside0.mk (zs_ hg (zw2_ HB GE289 GE290)); have GE306 := Aside0.mk (zs_ hg (zw2_ HB GE289 GE290)); replace HB := Aside0.mk (below_step (zw2_ HB GE289 GE290) hb); have NB289_306 := Aside0.mk (zn_ hg BK289); have NB306_289 := Aside0.mk (zm_ hg BK289); replace BK289 := za_ BK289 hb; have NB290_306 := Aside0.mk (zn_ hg BK290); have NB306_290 := Aside0.mk (zm_ hg BK290); replace BK290 := za_ BK290 hb; clear hb hbox hg; obtain ⟨Ao38, co38, eo38⟩ := Kd.R_slice HO301.out; subst eo38; have hnb39 := NB306_289.out; have hnc39 := NB289_306.out; have hnb40 := NB306_290.out; have hnc40 := NB290_306.out; have hcz41_0 := zx_ (v := .slice none 0 0) BK306 0; have hcz41_1 := zx_ (v := .slice none 0 0) BK306 1; have hfz41_0 := blk_frozen BK306.out 0; have hfz41_1 := blk_frozen BK306.out 1; obtain ⟨Ao42, co42, eo42⟩ := Kd.R_slice HO304.out; subst eo42))
     go_loopg [58] k2 (fun kq v58 w' => ∃ (x6_3 : List Int) (x58_3 : Int) (x307000_3 : List Int) (x307001_3 : List Int) (u307000 : Value) (u307001 : Value), v58 = .int .i64 x58_3 ∧ Aside0 (tens_Turn.l1 kq l1 x6_3 (t302.length : Int) x58_3 l0_0 l0_1 x307000_3 x307001_3 = some (r1, r2, r3)) ∧ Aside0 (kq ≤ k2) ∧ Aside0 (Kd.R (Kd.int .i64) 3 w' w.heap.size (fun k_ => some k_ ≠ (u307000 : Value).ownBlock) (.slice Ao35 x6_2.length co35) x6_3) ∧ Aside0 (Kd.R (Kd.int .i64) 3 w' w.heap.size (fun k_ => some k_ ≠ ((.slice Ao35 x6_2.length co35) : Value).ownBlock) u307000 x307000_3) ∧ Aside0 (Kd.R (Kd.int .i64) 23 w' w.heap.size (fun _ => True) u307001 x307001_3) ∧ Aside0 (w'.heap[gb289]? = some (.cells #[(.slice A0_0 l0_0.length c0_0), (.slice A0_1 l0_1.length c0_1)] 27 (0, 0))) ∧ Aside0 (w'.heap[gb290]? = some (.cells #[(.slice none 0 0), (.slice none 0 0)] 27 (0, 0))) ∧ Aside0 (w'.heap[gb306]? = some (.cells #[u307000, u307001] 27 (0, 0))) ∧ Aside0 (Below w.heap.size w w'))
     case atStart => exact ⟨(x6_2), (0), (t299), (t302), (.slice Ao38 t299.length co38), (.slice Ao42 t302.length co42), z1_, H', ⟨Nat.le_refl _⟩, ⟨zr_ (Kd.R_mono (Kd.R_far (p := ⟨gb306, 1, none⟩) (Kd.R_far (p := ⟨gb306, 0, none⟩) (Kd.R_types HO_6.out BK306.out (by decide)) (fun _ hk => hk.2) (.slice Ao38 t299.length co38)) (fun _ hk => hk.2) (.slice Ao42 t302.length co42)) (fun _ hk => hk.1.2))⟩, ⟨zr_ (Kd.R_mono (Kd.R_far (p := ⟨gb306, 1, none⟩) (Kd.R_far (p := ⟨gb306, 0, none⟩) (Kd.R_types HO301.out BK306.out (by decide)) (fun _ hk => hk.2) (.slice Ao38 t299.length co38)) (fun _ hk => hk.2) (.slice Ao42 t302.length co42)) (fun _ hk => hk.1.2))⟩, ⟨zr_ (Kd.R_mono (Kd.R_far (p := ⟨gb306, 1, none⟩) (Kd.R_far (p := ⟨gb306, 0, none⟩) (Kd.R_types HO304.out BK306.out (by decide)) (fun _ hk => hk.2) (.slice Ao38 t299.length co38)) (fun _ hk => hk.2) (.slice Ao42 t302.length co42)) (fun _ hk => trivial))⟩, ⟨zv1_ BK289 NB289_306⟩, ⟨zv1_ BK290 NB290_306⟩, ⟨zo2_ BK306⟩, ⟨zw3_ HB GE289 GE290 GE306⟩⟩
     case round =>
      clear H'
      try clear c1
      try clear c2
      try clear p2
      try clear q2
      try clear hx2
      try clear hf2
      try clear c3
      try clear c4
      try clear p6
      try clear c7
      try clear c9
      try clear c12
      try clear c13
      try clear c16
      try clear c17
      try clear c19
      try clear c19b0
      try clear c19b1
      try clear c20
      try clear c20b0
      try clear c20b1
      try clear c23
      try clear c23b0
      try clear c24
      try clear c24b0
      try clear c25
      try clear c25b0
      try clear c26
      try clear c26b0
      try clear c27
      try clear c27b0
      try clear c28
      try clear c28b0
      try clear p29
      try clear q29
      try clear hx29
      try clear hf29
      try clear c30
      try clear c39
      try clear c40
      try clear hcz10_0
      try clear hcz10_1
      try clear hcz12_0
      try clear hcz12_1
      try clear hcz14_0
      try clear hcz14_1
      try clear hcz18_0
      try clear hcz18_1
      try clear hcz31_0
      try clear hcz31_1
      try clear hcz41_0
      try clear hcz41_1
      try clear hfz10_0
      try clear hfz10_1
      try clear hfz12_0
      try clear hfz12_1
      try clear hfz14_0
      try clear hfz14_1
      try clear hfz18_0
      try clear hfz18_1
      try clear hfz31_0
      try clear hfz31_1
      try clear hfz41_0
      try clear hfz41_1
      try clear hx296_0
      try clear hx297_0
      try clear hx29_0
      try clear p2
      try clear p29
      try clear p296
      try clear p297
      try clear q29
      try clear q296
      try clear q297
      obtain ⟨x6_3, x58_3, x307000_3, x307001_3, u307000, u307001, rfl, HA, HK3, HO_6, HO_307000, HO_307001, BK289, BK290, BK306, HB⟩ := hrel
      have hl6_3 := (Kd.R_reads' HO_6.out).1
      rw [hl6_3] at HO_6
      (try simp only [hl6_3])
      (try simp only [hl6_3] at BK289)
      (try simp only [hl6_3] at BK290)
      (try simp only [hl6_3] at BK306)
      (try simp only [hl6_3] at HO_307000)
      (try simp only [hl6_3] at HO_307001)
      cases gk with
      | zero => exact absurd HA.out (by simp [tens_Turn.l1])
      | succ k3 =>
       have H := HA.out
       clear HA
       simp only [tens_Turn.l1] at H
       by_cases c43 : x58_3 < (t302.length : Int)
       rotate_left
       ·rw [if_neg c43] at H
        have c43b0 : decide (x58_3 < (t302.length : Int)) = false := decide_eq_false c43
        clear c43
        simp only [Option.some.injEq, Prod.mk.injEq] at H
        obtain ⟨rfl, rfl, rfl⟩ := H
        have hnb72 := NB306_289.out
        have hnc72 := NB289_306.out
        have hnb73 := NB306_290.out
        have hnc73 := NB290_306.out
        have hcz74_0 := zx_ (v := u307000) BK306 0
        have hcz74_1 := zx_ (v := u307001) BK306 1
        have hfz74_0 := blk_frozen BK306.out 0
        have hfz74_1 := blk_frozen BK306.out 1
        obtain ⟨Ao75, co75, eo75⟩ := Kd.R_slice HO_307000.out
        subst eo75
        have hnb76 := NB290_289.out
        have hnc76 := NB289_290.out
        have hcz77_0 := zx_ (v := .slice none 0 0) BK290 0
        have hcz77_1 := zx_ (v := .slice none 0 0) BK290 1
        have hfz77_0 := blk_frozen BK290.out 0
        have hfz77_1 := blk_frozen BK290.out 1
        obtain ⟨Ao78, co78, eo78⟩ := Kd.R_slice HO_307001.out
        subst eo78
        go_wp2
        refine bodyPost_ret (results_ct rfl _ _ gb290 27 #[.slice Ao75 x307000_3.length co75, .slice Ao78 x307001_3.length co78] (0, 0) _ rfl (zo2_ BK290) Try.underlying27 rfl (by kernel_rfl)) rfl ?_
        exact ⟨_, _, z0_, zr_ (Kd.R_mono (Kd.R_far (p := ⟨gb290, 1, none⟩) (Kd.R_far (p := ⟨gb290, 0, none⟩) (Kd.R_types HO_307000.out BK290.out (by decide)) (fun _ hk => hk.2) (.slice Ao75 x307000_3.length co75)) (fun _ hk => hk.2) (.slice Ao78 x307001_3.length co78)) (fun _ hk => trivial)), zr_ (Kd.R_mono (Kd.R_far (p := ⟨gb290, 1, none⟩) (Kd.R_far (p := ⟨gb290, 0, none⟩) (Kd.R_types HO_307001.out BK290.out (by decide)) (fun _ hk => hk.2) (.slice Ao75 x307000_3.length co75)) (fun _ hk => hk.2) (.slice Ao78 x307001_3.length co78)) (fun _ hk => trivial)), zw3_ HB GE289 GE290 GE306⟩
       rw [if_pos c43] at H
       have c43b0 : decide (x58_3 < (t302.length : Int)) = true := decide_eq_true c43
       clear c43
       replace H := Option.bind_eq_some_iff.mp H
       obtain ⟨⟨t307, t308⟩, A440, H⟩ := H
       (try dsimp only at H)
       have A44 := Aside0.mk A440
       clear A440
       by_cases c45 : 0 ≤ (l1.length : Int)
       rotate_left
       ·rw [if_neg c45] at H
        exact absurd H (by simp)
       rw [if_pos c45] at H
       have c45b0 := eq_true c45
       have c45b1 : decide (0 ≤ (l1.length : Int)) = true := decide_eq_true c45
       clear c45
       by_cases c46 : ((l1.length : Int) : Int).toNat ≤ 35184372088832
       rotate_left
       ·rw [if_neg c46] at H
        exact absurd H (by simp)
       rw [if_pos c46] at H
       have c46b0 := eq_true c46
       have c46b1 : decide (((l1.length : Int) : Int).toNat ≤ 35184372088832) = true := decide_eq_true c46
       clear c46
       obtain ⟨y311, hy311⟩ : ∃ y_ : List Int, y_ = (List.replicate ((l1.length : Int) : Int).toNat 0) := ⟨_, rfl⟩
       replace H : (tens_Turn.l2 k3 l1 x6_3 x58_3 t307 y311 (t302.length : Int) x58_3 l1 (l1.length : Int) 0 l0_0 l0_1 x307000_3 x307001_3) = some (r1, r2, r3) := by first | (rw [hy311]; with_reducible exact H) | (have H2_ := (Option.bind_some _ _).symm.trans H; rw [hy311]; with_reducible exact H2_) | (have H2_ := (Option.bind_some _ _).symm.trans H; with_reducible exact H2_) | with_reducible exact H | (rw [hy311]; exact H) | exact H
       have Ny311 := Aside0.mk hy311
       clear hy311
       have H' := Aside0.mk H
       clear H
       go_wp2_with (first | ((with_reducible refine gate_callee (f := 52) rfl ?_); refine zg_ (some 64) Try.func52 #[.slice Ao35 x6_3.length co35, .int .i64 x58_3] (h := ?_); (with_reducible refine (shape_Place.calls k3 _ _ x6_3 x58_3 t307 t308 _ ?side1 ?side2 A44.out).mono ?_); (case side1 => exact zk_ ((Kd.R_reads' HO_6.out).2.2)); (case side2 => exact (Kd.R_reads' HO_6.out).2.1); rintro e w47 ⟨v309, rfl, ho0, hb⟩; refine ⟨_, rfl, ?_⟩; replace HO_307001 := zy_ HO_307001 hb; have HO310 := Aside0.mk (Kd.R_lower (Kd.R_new' (Kd.R_new' ho0 (Kd.R_lt (zr_ HO_6.out))) (Kd.R_lt (zr_ HO_307000.out))) (below_size (zw3_ HB GE289 GE290 GE306))); replace HO_6 := ze_ HO_6 ho0 hb; replace HO_307000 := ze_ HO_307000 ho0 hb; replace BK289 := za_ BK289 hb; replace BK290 := za_ BK290 hb; replace BK306 := za_ BK306 hb; replace HB := Aside0.mk (below_step (zw3_ HB GE289 GE290 GE306) hb); (try clear hb); (try clear ho0)) | ((with_reducible refine gate_dst (N := 69) rfl ?_); (try (refine gate_guard (by rfl) ?_; dsimp only)); refine Kd.R_make (Kd.int .i64) _ 3 rfl (N := 69) rfl 22 _ _ rfl (l1.length : Int) rfl rfl Try.underlying22 (.int .i64 0) 8 info3 rfl (by decide) (by omega) 0 (ok := fun _ => True) (okp := fun _ => True) rfl (fun _ hk => hk) trivial (of_decide_eq_true (by first | (with_reducible assumption) | assumption)) (Nat.le_trans (Nat.mul_le_mul_right _ (of_decide_eq_true (by first | (with_reducible assumption) | assumption) : (l1.length : Int).toNat ≤ 35184372088832)) (by omega)) (Below.refl _ _) (Nat.le_refl _) ?_; intro v312 w48 ho49 hb hg_ hnew_; clear hg_ hnew_; (first | rw [← Ny311.out] at ho49 | (simp only [Int.reduceToNat] at ho49; rw [← Ny311.out] at ho49)); replace HO_307001 := zy_ HO_307001 hb; have HO313 := Aside0.mk (Kd.R_lower (Kd.R_new' (Kd.R_new' (Kd.R_new' ho49 (Kd.R_lt (zr_ HO_6.out))) (Kd.R_lt (zr_ HO_307000.out))) (Kd.R_lt (zr_ HO310.out))) (below_size (zw3_ HB GE289 GE290 GE306))); replace HO_6 := ze_ HO_6 ho49 hb; replace HO_307000 := ze_ HO_307000 ho49 hb; replace HO310 := ze_ HO310 ho49 hb; replace BK289 := za_ BK289 hb; replace BK290 := za_ BK290 hb; replace BK306 := za_ BK306 hb; replace HB := Aside0.mk (below_step (zw3_ HB GE289 GE290 GE306) hb); clear hb ho49))
       go_loopg [72] k3 (fun kq v72 w' => ∃ (x14_4 : List Int) (x72_4 : Int), v72 = .int .i64 x72_4 ∧ Aside0 (tens_Turn.l2 kq l1 x6_3 x58_3 t307 x14_4 (t302.length : Int) x58_3 l1 (l1.length : Int) x72_4 l0_0 l0_1 x307000_3 x307001_3 = some (r1, r2, r3)) ∧ Aside0 (kq ≤ k3) ∧ Aside0 (Kd.R (Kd.int .i64) 3 w' w.heap.size (fun k_ => some k_ ≠ (v309 : Value).ownBlock ∧ some k_ ≠ (v312 : Value).ownBlock ∧ some k_ ≠ (u307000 : Value).ownBlock) (.slice Ao35 x6_3.length co35) x6_3) ∧ Aside0 (Kd.R (Kd.int .i64) 3 w' w.heap.size (fun k_ => some k_ ≠ ((.slice Ao35 x6_3.length co35) : Value).ownBlock ∧ some k_ ≠ (v312 : Value).ownBlock ∧ some k_ ≠ (u307000 : Value).ownBlock) v309 t307) ∧ Aside0 (Kd.R (Kd.int .i64) 3 w' w.heap.size (fun k_ => some k_ ≠ ((.slice Ao35 x6_3.length co35) : Value).ownBlock ∧ some k_ ≠ (v309 : Value).ownBlock ∧ some k_ ≠ (u307000 : Value).ownBlock) v312 x14_4) ∧ Aside0 (Kd.R (Kd.int .i64) 3 w' w.heap.size (fun k_ => some k_ ≠ ((.slice Ao35 x6_3.length co35) : Value).ownBlock ∧ some k_ ≠ (v309 : Value).ownBlock ∧ some k_ ≠ (v312 : Value).ownBlock) u307000 x307000_3) ∧ Aside0 (Kd.R (Kd.int .i64) 23 w' w.heap.size (fun _ => True) u307001 x307001_3) ∧ Aside0 (w'.heap[gb289]? = some (.cells #[(.slice A0_0 l0_0.length c0_0), (.slice A0_1 l0_1.length c0_1)] 27 (0, 0))) ∧ Aside0 (w'.heap[gb290]? = some (.cells #[(.slice none 0 0), (.slice none 0 0)] 27 (0, 0))) ∧ Aside0 (w'.heap[gb306]? = some (.cells #[u307000, u307001] 27 (0, 0))) ∧ Aside0 (Below w.heap.size w w'))
       case atStart => exact ⟨(y311), (0), z1_, H', ⟨Nat.le_refl _⟩, ⟨by (try simp only [hl6_3]); (with_reducible repeat (first | apply Kd.R_alloc | apply Kd.R_drewN | apply Kd.R_drew)); exact Kd.R_mono HO_6.out (fun _ hk => ⟨hk.1.2, ⟨hk.2, hk.1.1⟩⟩)⟩, ⟨by (try simp only [hl6_3]); (with_reducible repeat (first | apply Kd.R_alloc | apply Kd.R_drewN | apply Kd.R_drew)); exact Kd.R_mono HO310.out (fun _ hk => ⟨hk.1.1.2, ⟨hk.2, hk.1.2⟩⟩)⟩, ⟨by (try simp only [hl6_3]); (with_reducible repeat (first | apply Kd.R_alloc | apply Kd.R_drewN | apply Kd.R_drew)); exact Kd.R_mono HO313.out (fun _ hk => ⟨hk.1.1.2, ⟨hk.2, hk.1.2⟩⟩)⟩, ⟨by (try simp only [hl6_3]); (with_reducible repeat (first | apply Kd.R_alloc | apply Kd.R_drewN | apply Kd.R_drew)); exact Kd.R_mono HO_307000.out (fun _ hk => ⟨hk.1.1, ⟨hk.1.2, hk.2⟩⟩)⟩, ⟨by (try simp only [hl6_3]); (with_reducible repeat (first | apply Kd.R_alloc | apply Kd.R_drewN | apply Kd.R_drew)); exact HO_307001.out⟩, ⟨by (try simp only [hl6_3]); (with_reducible repeat (first | refine blk_drewN ?_ _ | refine blk_drew ?_ | refine blk_alloc ?_ _)); exact BK289.out⟩, ⟨by (try simp only [hl6_3]); (with_reducible repeat (first | refine blk_drewN ?_ _ | refine blk_drew ?_ | refine blk_alloc ?_ _)); exact BK290.out⟩, ⟨by (try simp only [hl6_3]); (with_reducible repeat (first | refine blk_drewN ?_ _ | refine blk_drew ?_ | refine blk_alloc ?_ _)); exact BK306.out⟩, ⟨zw3_ HB GE289 GE290 GE306⟩⟩
       case round =>
        clear H'
        try clear c1
        try clear c2
        try clear p2
        try clear q2
        try clear hx2
        try clear hf2
        try clear c3
        try clear c4
        try clear c5
        try clear p6
        try clear c7
        try clear c9
        try clear c12
        try clear c13
        try clear c16
        try clear c17
        try clear c19
        try clear c19b0
        try clear c19b1
        try clear c20
        try clear c20b0
        try clear c20b1
        try clear c23
        try clear c23b0
        try clear c24
        try clear c24b0
        try clear c25
        try clear c25b0
        try clear c26
        try clear c26b0
        try clear c27
        try clear c27b0
        try clear c28
        try clear c28b0
        try clear p29
        try clear q29
        try clear hx29
        try clear hf29
        try clear c30
        try clear c39
        try clear c40
        try clear c43
        try clear c43b0
        try clear c45
        try clear c45b0
        try clear c45b1
        try clear c46
        try clear c46b0
        try clear c46b1
        try clear hcz10_0
        try clear hcz10_1
        try clear hcz12_0
        try clear hcz12_1
        try clear hcz14_0
        try clear hcz14_1
        try clear hcz18_0
        try clear hcz18_1
        try clear hcz31_0
        try clear hcz31_1
        try clear hcz41_0
        try clear hcz41_1
        try clear hfz10_0
        try clear hfz10_1
        try clear hfz12_0
        try clear hfz12_1
        try clear hfz14_0
        try clear hfz14_1
        try clear hfz18_0
        try clear hfz18_1
        try clear hfz31_0
        try clear hfz31_1
        try clear hfz41_0
        try clear hfz41_1
        try clear hx296_0
        try clear hx297_0
        try clear hx29_0
        try clear p2
        try clear p29
        try clear p296
        try clear p297
        try clear p6
        try clear q2
        try clear q29
        try clear q296
        try clear q297
        obtain ⟨x14_4, x72_4, rfl, HA, HK4, HO_6, HO_12, HO_14, HO_307000, HO_307001, BK289, BK290, BK306, HB⟩ := hrel
        cases gk with
        | zero => exact absurd HA.out (by simp [tens_Turn.l2])
        | succ k4 =>
         have H := HA.out
         clear HA
         simp only [tens_Turn.l2] at H
         by_cases c50 : x72_4 < (l1.length : Int)
         ·rw [if_pos c50] at H
          have c50b0 : decide (x72_4 < (l1.length : Int)) = true := decide_eq_true c50
          clear c50
          by_cases c51 : 0 ≤ x72_4
          rotate_left
          ·rw [if_neg c51] at H
           exact absurd H (by simp)
          rw [if_pos c51] at H
          have c51b0 : decide (0 ≤ x72_4) = true := decide_eq_true c51
          clear c51
          by_cases c52 : x72_4 < (l1.length : Int)
          rotate_left
          ·rw [if_neg c52] at H
           exact absurd H (by simp)
          rw [if_pos c52] at H
          have c52b0 : decide (x72_4 < (l1.length : Int)) = true := decide_eq_true c52
          clear c52
          by_cases c53 : x72_4 < (t307.length : Int)
          rotate_left
          ·rw [if_neg c53] at H
           exact absurd H (by simp)
          rw [if_pos c53] at H
          have c53b0 : decide (x72_4 < (t307.length : Int)) = true := decide_eq_true c53
          clear c53
          by_cases c54 : 0 ≤ (rd l1 x72_4)
          rotate_left
          ·rw [if_neg c54] at H
           exact absurd H (by simp)
          rw [if_pos c54] at H
          have c54b0 : decide (0 ≤ (rd l1 x72_4)) = true := decide_eq_true c54
          clear c54
          by_cases c55 : (rd l1 x72_4) < (x14_4.length : Int)
          rotate_left
          ·rw [if_neg c55] at H
           exact absurd H (by simp)
          rw [if_pos c55] at H
          have c55b0 : decide ((rd l1 x72_4) < (x14_4.length : Int)) = true := decide_eq_true c55
          clear c55
          obtain ⟨y316, hy316⟩ : ∃ y_ : List Int, y_ = (x14_4.set ((rd l1 x72_4) : Int).toNat (rd t307 x72_4)) := ⟨_, rfl⟩
          replace H : (tens_Turn.l2 k4 l1 x6_3 x58_3 t307 y316 (t302.length : Int) x58_3 l1 (l1.length : Int) (wrap64 (x72_4 + 1)) l0_0 l0_1 x307000_3 x307001_3) = some (r1, r2, r3) := by first | (rw [hy316]; with_reducible exact H) | (have H2_ := (Option.bind_some _ _).symm.trans H; rw [hy316]; with_reducible exact H2_) | (have H2_ := (Option.bind_some _ _).symm.trans H; with_reducible exact H2_) | with_reducible exact H | (rw [hy316]; exact H) | exact H
          have Ny316 := Aside0.mk hy316
          clear hy316
          have H' := Aside0.mk H
          clear H
          have p314 : 0 ≤ (x72_4 : Int) := of_decide_eq_true (by first | (with_reducible assumption) | assumption)
          have q314 : x72_4 < (l1.length : Int) := of_decide_eq_true (by first | (with_reducible assumption) | assumption)
          obtain ⟨ad314, e314, hx314_0⟩ := Kd.at_int HR1.out x72_4 p314 q314
          cases e314
          replace hx314_0 := (HB.out.cell (World.block_lt_of_cell? w _ hx314_0)).trans hx314_0
          replace p314 := eq_true p314
          replace q314 := eq_true q314
          obtain ⟨Ao57, co57, eo57⟩ := Kd.R_slice HO_12.out
          subst eo57
          have p315 : 0 ≤ (x72_4 : Int) := of_decide_eq_true (by first | (with_reducible assumption) | assumption)
          have q315 : x72_4 < (t307.length : Int) := of_decide_eq_true (by first | (with_reducible assumption) | assumption)
          obtain ⟨ad315, e315, hx315_0⟩ := Kd.at_int (Kd.R_reads' HO_12.out).2.2 x72_4 p315 q315
          cases e315
          replace p315 := eq_true p315
          replace q315 := eq_true q315
          have p56 : 0 ≤ ((rd l1 x72_4) : Int) := of_decide_eq_true (by first | (with_reducible assumption) | assumption)
          have q56 : ((rd l1 x72_4) : Int) < ((x14_4.length : Int) : Int) := of_decide_eq_true (by first | (with_reducible assumption) | assumption)
          obtain ⟨go56, co56, eo56, gb56, gl56, cl56, HG56⟩ := Kd.R_form HO_14.out (by omega)
          (first | cases eo56 | (injection eo56 with ea_ en_ ec_; (first | subst ea_ | (injection ea_ with ea_; subst ea_)); subst ec_; clear en_))
          have GB56 := Aside0.mk gb56
          have GG56 := Aside0.mk HG56
          clear gb56 gl56 HG56
          obtain ⟨hx56_0, hf56_0⟩ := Kd.R_celln 0 HO_14.out ((rd l1 x72_4) : Int) p56 q56
          replace p56 := eq_true p56
          replace q56 := eq_true q56
          have HP58 := Kd.R_putg HO_14.out ((rd l1 x72_4) : Int) (rd t307 x72_4)
          go_wp2_with (first | ((with_reducible refine gate_store (t := 3) (p := 83) rfl ?_); refine store_event (t := 3) (p := 83) (v := ?vo_w59) (w1 := (wr.setCell ⟨go56, ((rd l1 x72_4) : Int).toNat, none⟩ (.int .i64 (rd t307 x72_4)))) ?hg ?ho ?hn ?hr ?_; (case ho => rfl); (case hg => rfl); (case hn => rfl); (case hr => first | (go_simp; done) | (go_simp; rfl)); intro w59 hw; have hg : wr.grownBy w59 (some go56) := (by rw [hw]; exact HP58.2); have hp_ : Kd.R (Kd.int .i64) 3 w59 w.heap.size (fun k_ => some k_ ≠ (.slice Ao35 x6_3.length co35 : Value).ownBlock ∧ some k_ ≠ (.slice (some ad315) t307.length co57 : Value).ownBlock ∧ some k_ ≠ (u307000 : Value).ownBlock) (.slice (some ⟨go56, 0, none⟩) x14_4.length co56) y316 := (by rw [hw, Ny316.out]; exact HP58.1); clear HP58; replace HO_6 := Aside0.mk (Kd.R_after (v := (.slice (some ⟨go56, 0, none⟩) x14_4.length co56)) (v1 := (.slice (some ⟨go56, 0, none⟩) x14_4.length co56)) (ok := (fun k_ => some k_ ≠ (.slice (some ad315) t307.length co57 : Value).ownBlock ∧ some k_ ≠ (u307000 : Value).ownBlock)) (zr_ (Kd.R_mono HO_6.out (fun _ hk => ⟨⟨hk.1, hk.2.2⟩, hk.2.1⟩))) hg (.inl rfl)); replace HO_12 := Aside0.mk (Kd.R_after (v := (.slice (some ⟨go56, 0, none⟩) x14_4.length co56)) (v1 := (.slice (some ⟨go56, 0, none⟩) x14_4.length co56)) (ok := (fun k_ => some k_ ≠ (.slice Ao35 x6_3.length co35 : Value).ownBlock ∧ some k_ ≠ (u307000 : Value).ownBlock)) (zr_ (Kd.R_mono HO_12.out (fun _ hk => ⟨⟨hk.1, hk.2.2⟩, hk.2.1⟩))) hg (.inl rfl)); replace HO_307000 := Aside0.mk (Kd.R_after (v := (.slice (some ⟨go56, 0, none⟩) x14_4.length co56)) (v1 := (.slice (some ⟨go56, 0, none⟩) x14_4.length co56)) (ok := (fun k_ => some k_ ≠ (.slice Ao35 x6_3.length co35 : Value).ownBlock ∧ some k_ ≠ (.slice (some ad315) t307.length co57 : Value).ownBlock)) (zr_ (Kd.R_mono HO_307000.out (fun _ hk => ⟨⟨hk.1, hk.2.1⟩, hk.2.2⟩))) hg (.inl rfl)); replace HO_307001 := Aside0.mk (Kd.R_over' (v := (.slice (some ⟨go56, 0, none⟩) x14_4.length co56)) (zr_ HO_307001.out) (Kd.R_typed HO_14.out) (by decide) hg); replace BK289 := Aside0.mk (zh_ BK289 hg (Kd.R_ne HO_14.out BK289.out (by decide))); replace BK290 := Aside0.mk (zh_ BK290 hg (Kd.R_ne HO_14.out BK290.out (by decide))); replace BK306 := Aside0.mk (zh_ BK306 hg (Kd.R_ne HO_14.out BK306.out (by decide))); replace HO_14 := Aside0.mk (hp_); replace HB := Aside0.mk ((by rw [hw]; exact below_set (HB.out) GB56.out : Below w.heap.size w w59)); clear hg hw hp_))
          go_roundg k4
          case measure => have := HJ2.out; have := HK2.out; have := HK3.out; have := HK4.out; omega
          case rel => exact ⟨(y316), (wrap64 (x72_4 + 1)), z1_, H', ⟨by have := HJ2.out; have := HK2.out; have := HK3.out; have := HK4.out; omega⟩, ⟨by (try simp only [hl6_3]); (with_reducible repeat (first | apply Kd.R_alloc | apply Kd.R_drewN | apply Kd.R_drew)); exact Kd.R_mono HO_6.out (fun _ hk => ⟨hk.1.1, ⟨hk.2, hk.1.2⟩⟩)⟩, ⟨by (try simp only [hl6_3]); (with_reducible repeat (first | apply Kd.R_alloc | apply Kd.R_drewN | apply Kd.R_drew)); exact Kd.R_mono HO_12.out (fun _ hk => ⟨hk.1.1, ⟨hk.2, hk.1.2⟩⟩)⟩, ⟨by (try simp only [hl6_3]); (with_reducible repeat (first | apply Kd.R_alloc | apply Kd.R_drewN | apply Kd.R_drew)); exact HO_14.out⟩, ⟨by (try simp only [hl6_3]); (with_reducible repeat (first | apply Kd.R_alloc | apply Kd.R_drewN | apply Kd.R_drew)); exact Kd.R_mono HO_307000.out (fun _ hk => ⟨hk.1.1, ⟨hk.1.2, hk.2⟩⟩)⟩, ⟨by (try simp only [hl6_3]); (with_reducible repeat (first | apply Kd.R_alloc | apply Kd.R_drewN | apply Kd.R_drew)); exact HO_307001.out⟩, ⟨by (try simp only [hl6_3]); (with_reducible repeat (first | refine blk_drewN ?_ _ | refine blk_drew ?_ | refine blk_alloc ?_ _)); exact BK289.out⟩, ⟨by (try simp only [hl6_3]); (with_reducible repeat (first | refine blk_drewN ?_ _ | refine blk_drew ?_ | refine blk_alloc ?_ _)); exact BK290.out⟩, ⟨by (try simp only [hl6_3]); (with_reducible repeat (first | refine blk_drewN ?_ _ | refine blk_drew ?_ | refine blk_alloc ?_ _)); exact BK306.out⟩, ⟨zw3_ HB GE289 GE290 GE306⟩⟩
         rw [if_neg c50] at H
         have c50b0 : decide (x72_4 < (l1.length : Int)) = false := decide_eq_false c50
         clear c50
         replace H := Option.bind_eq_some_iff.mp H
         obtain ⟨⟨t317, t318⟩, A600, H⟩ := H
         (try dsimp only at H)
         have A60 := Aside0.mk A600
         clear A600
         by_cases c61 : 0 ≤ t317
         rotate_left
         ·rw [if_neg c61] at H
          exact absurd H (by simp)
         rw [if_pos c61] at H
         have c61b0 : decide (0 ≤ t317) = true := decide_eq_true c61
         clear c61
         by_cases c62 : t317 < (l0_1.length : Int)
         rotate_left
         ·rw [if_neg c62] at H
          exact absurd H (by simp)
         rw [if_pos c62] at H
         have c62b0 : decide (t317 < (l0_1.length : Int)) = true := decide_eq_true c62
         clear c62
         by_cases c63 : 0 ≤ x58_3
         rotate_left
         ·rw [if_neg c63] at H
          exact absurd H (by simp)
         rw [if_pos c63] at H
         have c63b0 : decide (0 ≤ x58_3) = true := decide_eq_true c63
         clear c63
         by_cases c64 : x58_3 < (x307001_3.length : Int)
         rotate_left
         ·rw [if_neg c64] at H
          exact absurd H (by simp)
         rw [if_pos c64] at H
         have c64b0 : decide (x58_3 < (x307001_3.length : Int)) = true := decide_eq_true c64
         clear c64
         obtain ⟨y320, hy320⟩ : ∃ y_ : List Int, y_ = (x307001_3.set (x58_3 : Int).toNat (rd l0_1 t317)) := ⟨_, rfl⟩
         replace H : (tens_Turn.l1 k4 l1 x6_3 (t302.length : Int) (wrap64 (x58_3 + 1)) l0_0 l0_1 x307000_3 y320) = some (r1, r2, r3) := by first | (rw [hy320]; with_reducible exact H) | (have H2_ := (Option.bind_some _ _).symm.trans H; rw [hy320]; with_reducible exact H2_) | (have H2_ := (Option.bind_some _ _).symm.trans H; with_reducible exact H2_) | with_reducible exact H | (rw [hy320]; exact H) | exact H
         have Ny320 := Aside0.mk hy320
         clear hy320
         have H' := Aside0.mk H
         clear H
         have hnb66 := NB289_290.out
         have hnc66 := NB290_289.out
         have hnb67 := NB289_306.out
         have hnc67 := NB306_289.out
         have hcz68_0 := zx_ (v := .slice A0_0 l0_0.length c0_0) BK289 0
         have hcz68_1 := zx_ (v := .slice A0_1 l0_1.length c0_1) BK289 1
         have hfz68_0 := blk_frozen BK289.out 0
         have hfz68_1 := blk_frozen BK289.out 1
         obtain ⟨Ao69, co69, eo69⟩ := Kd.R_slice HO_14.out
         subst eo69
         try go_wp2_with (first | ((with_reducible refine gate_callee (f := 53) rfl ?_); refine zg_ (some 89) Try.func53 #[.slice A0_0 l0_0.length c0_0, .slice Ao69 x14_4.length co69] (h := ?_); (with_reducible refine (shape_At.calls k4 _ _ l0_0 _ _ x14_4 t317 t318 _ ?side1 ?side2 ?side3 ?side4 A60.out).mono ?_); (case side1 => exact zk_ (Kd.C_below HR0_0.out HB.out)); (case side2 => exact HC0_0.out); (case side3 => exact zk_ ((Kd.R_reads' HO_14.out).2.2)); (case side4 => exact (Kd.R_reads' HO_14.out).2.1); rintro e w' ⟨rfl, ⟨nd, rfl⟩⟩; refine ⟨_, rfl, ?_⟩; (try (rw [drewN_self wr]; generalize hq_ : World.drewN wr _ = wr; have n0_ : Aside0 (Kd.R (Kd.int .i64) 3 wr w.heap.size (fun k_ => some k_ ≠ (.slice Ao69 x14_4.length co69 : Value).ownBlock ∧ some k_ ≠ (u307000 : Value).ownBlock ∧ some k_ ≠ (.slice Ao35 x6_3.length co35 : Value).ownBlock) v309 t307) := ⟨by rw [← hq_]; exact (zr_ (Kd.R_mono HO_12.out (fun _ hk => ⟨hk.2.1, ⟨hk.2.2, hk.1⟩⟩)))⟩; have n1_ : Aside0 (Kd.R (Kd.int .i64) 3 wr w.heap.size (fun k_ => some k_ ≠ (v309 : Value).ownBlock ∧ some k_ ≠ (u307000 : Value).ownBlock ∧ some k_ ≠ (.slice Ao35 x6_3.length co35 : Value).ownBlock) (.slice Ao69 x14_4.length co69) x14_4) := ⟨by rw [← hq_]; exact (zr_ (Kd.R_mono HO_14.out (fun _ hk => ⟨hk.2.1, ⟨hk.2.2, hk.1⟩⟩)))⟩; have n2_ : Aside0 (Kd.R (Kd.int .i64) 3 wr w.heap.size (fun k_ => some k_ ≠ (v309 : Value).ownBlock ∧ some k_ ≠ (.slice Ao69 x14_4.length co69 : Value).ownBlock ∧ some k_ ≠ (.slice Ao35 x6_3.length co35 : Value).ownBlock) u307000 x307000_3) := ⟨by rw [← hq_]; exact (zr_ (Kd.R_mono HO_307000.out (fun _ hk => ⟨hk.2.1, ⟨hk.2.2, hk.1⟩⟩)))⟩; have n3_ : Aside0 (Kd.R (Kd.int .i64) 23 wr w.heap.size (fun _ => True) u307001 x307001_3) := ⟨by rw [← hq_]; exact (zr_ HO_307001.out)⟩; have n4_ : Aside0 (Kd.R (Kd.int .i64) 3 wr w.heap.size (fun k_ => some k_ ≠ (v309 : Value).ownBlock ∧ some k_ ≠ (.slice Ao69 x14_4.length co69 : Value).ownBlock ∧ some k_ ≠ (u307000 : Value).ownBlock) (.slice Ao35 x6_3.length co35) x6_3) := ⟨by rw [← hq_]; exact (zr_ HO_6.out)⟩; have n5_ : Aside0 (wr.heap[gb289]? = some (.cells #[.slice A0_0 l0_0.length c0_0, .slice A0_1 l0_1.length c0_1] 27 (0, 0))) := ⟨by rw [← hq_]; exact (zb_ BK289)⟩; have n6_ : Aside0 (wr.heap[gb290]? = some (.cells #[.slice none 0 0, .slice none 0 0] 27 (0, 0))) := ⟨by rw [← hq_]; exact (zb_ BK290)⟩; have n7_ : Aside0 (wr.heap[gb306]? = some (.cells #[u307000, u307001] 27 (0, 0))) := ⟨by rw [← hq_]; exact (zb_ BK306)⟩; have n8_ : Aside0 (Below w.heap.size w wr) := ⟨by rw [← hq_]; exact (zw3_ HB GE289 GE290 GE306)⟩; clear HO_12 HO_14 HO_307000 HO_307001 HO_6 BK289 BK290 BK306 HB hq_; have HO_12 := n0_; have HO_14 := n1_; have HO_307000 := n2_; have HO_307001 := n3_; have HO_6 := n4_; have BK289 := n5_; have BK290 := n6_; have BK306 := n7_; have HB := n8_; clear n0_ n1_ n2_ n3_ n4_ n5_ n6_ n7_ n8_; (try (have hcz31_0 := zx_ (v := .slice A0_0 l0_0.length c0_0) BK289 0)); (try (have hcz31_1 := zx_ (v := .slice A0_1 l0_1.length c0_1) BK289 1)); (try (have hfz31_0 := blk_frozen BK289.out 0)); (try (have hfz31_1 := blk_frozen BK289.out 1)); (try (have hcz68_0 := zx_ (v := .slice A0_0 l0_0.length c0_0) BK289 0)); (try (have hcz68_1 := zx_ (v := .slice A0_1 l0_1.length c0_1) BK289 1)); (try (have hfz68_0 := blk_frozen BK289.out 0)); (try (have hfz68_1 := blk_frozen BK289.out 1))))))
         replace HO_6 := Aside0.mk (Kd.R_drew HO_6.out)
         replace HO_12 := Aside0.mk (Kd.R_drew HO_12.out)
         replace HO_14 := Aside0.mk (Kd.R_drew HO_14.out)
         replace HO_307000 := Aside0.mk (Kd.R_drew HO_307000.out)
         replace HO_307001 := Aside0.mk (Kd.R_drew HO_307001.out)
         replace BK289 := Aside0.mk (blk_drew BK289.out)
         replace BK290 := Aside0.mk (blk_drew BK290.out)
         replace BK306 := Aside0.mk (blk_drew BK306.out)
         replace HB := Aside0.mk (below_drew1 HB.out)
         have p319 : 0 ≤ (t317 : Int) := of_decide_eq_true (by first | (with_reducible assumption) | assumption)
         have q319 : t317 < (l0_1.length : Int) := of_decide_eq_true (by first | (with_reducible assumption) | assumption)
         obtain ⟨ad319, e319, hx319_0⟩ := Kd.at_int HR0_1.out t317 p319 q319
         have hw319_0 := hx319_0
         cases e319
         replace hx319_0 := (HB.out.cell (World.block_lt_of_cell? w _ hx319_0)).trans hx319_0
         replace p319 := eq_true p319
         replace q319 := eq_true q319
         have p65 : 0 ≤ (x58_3 : Int) := of_decide_eq_true (by first | (with_reducible assumption) | assumption)
         have q65 : (x58_3 : Int) < ((x307001_3.length : Int) : Int) := of_decide_eq_true (by first | (with_reducible assumption) | assumption)
         obtain ⟨go65, co65, eo65, gb65, gl65, cl65, HG65⟩ := Kd.R_form HO_307001.out (by omega)
         (first | cases eo65 | (injection eo65 with ea_ en_ ec_; (first | subst ea_ | (injection ea_ with ea_; subst ea_)); subst ec_; clear en_))
         have GB65 := Aside0.mk gb65
         have GG65 := Aside0.mk HG65
         clear gb65 gl65 HG65
         obtain ⟨hx65_0, hf65_0⟩ := Kd.R_celln 0 HO_307001.out (x58_3 : Int) p65 q65
         replace p65 := eq_true p65
         replace q65 := eq_true q65
         have HP71 := Kd.R_putn HO_307001.out (x58_3 : Int) (rd l0_1 t317)
         rw [← Ny320.out] at HP71
         have HQ71 := Aside0.mk HP71
         clear HP71
         refine start_ (n := 10) (S := fun w' => w'.cell? ⟨gb306, 0, none⟩ = some (u307000) ∧ w'.cell? ⟨gb306, 1, none⟩ = some (.slice (some ⟨go65, 0, none⟩) x307001_3.length co65) ∧ w'.cell? ⟨gb289, 0, none⟩ = some (.slice A0_0 l0_0.length c0_0) ∧ w'.cell? ⟨gb289, 1, none⟩ = some (.slice (some ad319) l0_1.length c0_1) ∧ w'.cell? (ad319.add (t317).toNat) = some (.int .i64 (rd l0_1 t317))) (ds := [9]) #[false, false, false, false, false, false, false, false, false, false] (by kernel_rfl) rfl rfl ⟨(blk_cell BK306.out 0).trans rfl, (blk_cell BK306.out 1).trans rfl, (blk_cell BK289.out 0).trans rfl, (blk_cell BK289.out 1).trans rfl, ((HB.out.cell (World.block_lt_of_cell? w _ hw319_0)).trans hw319_0)⟩ (fun hHeld => ?_); refine with_tabW tens_Turn.tab21 tens_Turn.bits21 (fun HT_ HW_ => ?_)
         generalize wr.drew = w70 at HO_6 HO_12 HO_14 HO_307000 HO_307001 BK289 BK290 BK306 HB GG65 HQ71 hf65_0 hx319_0 hx65_0 hHeld ⊢
         refine yp_ ?_ 0 92
         refine yp_ ?_ 2 94
         refine yp_ ?_ 3 95
         refine yp_ ?_ 5 97
         refine yt5_ ?_ 1 93
         refine yt5_ ?_ 4 96
         refine yp_ ?_ 6 98
         refine yt5_ ?_ 7 99
         refine yp_ ?_ 8 100
         refine yl_ 9 none (fun K hK => ?_)
         refine skip_ (w1 := ?_) (by rfl) rfl ?_ ?_
         rotate_left
         ·go_simp
          rfl
         refine hK.out _ _ ?_
         clear hK K
         refine done_ (done_of HT_.out (by kernel_rfl)) ?_
         try go_wp2
         (try simp only [← hl6_3])
         go_roundg k4
         case measure => have := HJ2.out; have := HK2.out; have := HK3.out; have := HK4.out; omega
         case rel => exact ⟨(x6_3), (wrap64 (x58_3 + 1)), (x307000_3), (y320), (u307000), (.slice (some ⟨go65, 0, none⟩) x307001_3.length co65), z1_, H', ⟨by have := HJ2.out; have := HK2.out; have := HK3.out; have := HK4.out; omega⟩, ⟨by (try simp only [hl6_3]); (with_reducible repeat (first | apply Kd.R_alloc | apply Kd.R_drewN | apply Kd.R_drew)); exact Kd.R_mono (Kd.R_far (p := ⟨go65, (x58_3 : Int).toNat, none⟩) (Kd.R_types HO_6.out GG65.out (by decide)) (fun _ hk => hk.2) (.int .i64 (rd l0_1 t317))) (fun _ hk => hk.1.2.2)⟩, ⟨by (try simp only [hl6_3]); (with_reducible repeat (first | apply Kd.R_alloc | apply Kd.R_drewN | apply Kd.R_drew)); exact Kd.R_mono (Kd.R_far (p := ⟨go65, (x58_3 : Int).toNat, none⟩) (Kd.R_types HO_307000.out GG65.out (by decide)) (fun _ hk => hk.2) (.int .i64 (rd l0_1 t317))) (fun _ hk => by first | exact hk.1.1 | exact hk.1.2.2 | exact hk.1.2.1)⟩, ⟨by (try simp only [hl6_3]); (with_reducible repeat (first | apply Kd.R_alloc | apply Kd.R_drewN | apply Kd.R_drew)); exact HQ71.out⟩, ⟨by (try simp only [hl6_3]); (with_reducible repeat (first | refine blk_drewN ?_ _ | refine blk_drew ?_ | refine blk_alloc ?_ _)); refine blk_far ?_ (by have h_ := Kd.R_ne HO_307001.out BK289.out (by decide); intro e_; exact h_ (by rw [e_]; rfl)) _; (with_reducible repeat (first | refine blk_drewN ?_ _ | refine blk_drew ?_ | refine blk_alloc ?_ _)); exact BK289.out⟩, ⟨by (try simp only [hl6_3]); (with_reducible repeat (first | refine blk_drewN ?_ _ | refine blk_drew ?_ | refine blk_alloc ?_ _)); refine blk_far ?_ (by have h_ := Kd.R_ne HO_307001.out BK290.out (by decide); intro e_; exact h_ (by rw [e_]; rfl)) _; (with_reducible repeat (first | refine blk_drewN ?_ _ | refine blk_drew ?_ | refine blk_alloc ?_ _)); exact BK290.out⟩, ⟨by (try simp only [hl6_3]); (with_reducible repeat (first | refine blk_drewN ?_ _ | refine blk_drew ?_ | refine blk_alloc ?_ _)); refine blk_far ?_ (by have h_ := Kd.R_ne HO_307001.out BK306.out (by decide); intro e_; exact h_ (by rw [e_]; rfl)) _; (with_reducible repeat (first | refine blk_drewN ?_ _ | refine blk_drew ?_ | refine blk_alloc ?_ _)); exact BK306.out⟩, ⟨by repeat (first | (with_reducible first | exact HB.out | apply below_alloc | apply pw_below_drewN | apply below_drew1 | refine below_set ?_ GB65.out | refine below_set ?_ GE289.out | refine below_set ?_ GE290.out | refine below_set ?_ GE306.out) | exact HB.out)⟩⟩

end Go.Proofs.Ytbdhabpplidgfaa.PTensKnown
