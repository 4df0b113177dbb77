/- The functions that the law TensTurns reaches, as Lean functions, and that each call of the Go function does what its Lean function says, wherever that one answers. Written by a program of mine over the print of the kit; Lean checks it. -/
import Derived.Test.YtbdhabpplidgfaaPTensTurnsx0
import Derived.Test.YtbdhabpplidgfaaPTensTurnsx1
import Derived.Test.YtbdhabpplidgfaaPTensTurnsx7
import Derived.Test.YtbdhabpplidgfaaPTensTurnsx8
namespace Go.Proofs.Ytbdhabpplidgfaa.PTensTurns
open Go.RowKit Go.Proofs.YtbdhabpplidgfaaW.PrintWords Go.Proofs.YtbdhabpplidgfaaW.PrintLast Go.Proofs.YtbdhabpplidgfaaW.PrintMore
attribute [local go_sem] max2_int min2_int max_two min_two max_three min_three max_four min_four   -- for this text's walks alone
set_option linter.unusedVariables false
set_option linter.unusedSimpArgs false

/-! ### tens_Turn: function 25 -/
mutual
def tens_Turn.j0 : Nat → List Int → Bool → List Int → List Int → Option (List Int × List Int × Int)
 | 0, _, _, _, _ => none
 | k + 1, x1, x29, x259000, x259001 => if x29 = true then (some (([] : List Int), ([] : List Int), 1)) else (if 0 ≤ (x1.length : Int) then (if ((x1.length : Int) : Int).toNat ≤ 35184372088832 then (tens_Turn.l0 k x1 (List.replicate ((x1.length : Int) : Int).toNat 0) x1 (x1.length : Int) 0 x259000 x259001) else (none)) else (none))
def tens_Turn.l0 : Nat → List Int → List Int → List Int → Int → Int → List Int → List Int → Option (List Int × List Int × Int)
 | 0, _, _, _, _, _, _, _ => none
 | k + 1, x1, x6, x34, x35, x36, x259000, x259001 => if x36 < x35 then (if 0 ≤ x36 then (if x36 < (x34.length : Int) then (if 0 ≤ (rd x34 x36) then (if (rd x34 x36) < (x259000.length : Int) then (if x36 < (x6.length : Int) then (tens_Turn.l0 k x1 (x6.set (x36 : Int).toNat (rd x259000 (rd x34 x36))) x34 x35 (wrap64 (x36 + 1)) x259000 x259001) else (none)) else (none)) else (none)) else (none)) else (none)) else ((tens_New.f k x6 0).bind fun bt268 => (tens_Turn.l1 k x1 x6 (bt268.2.1.length : Int) 0 x259000 x259001 bt268.1 bt268.2.1))
def tens_Turn.l1 : Nat → List Int → List Int → Int → Int → List Int → List Int → List Int → List Int → Option (List Int × List Int × Int)
 | 0, _, _, _, _, _, _, _, _ => none
 | k + 1, x1, x6, x57, x58, x259000, x259001, x276000, x276001 => if x58 < x57 then ((shape_Place.f k x6 x58).bind fun bt276 => (if 0 ≤ (x1.length : Int) then (if ((x1.length : Int) : Int).toNat ≤ 35184372088832 then (tens_Turn.l2 k x1 x6 x58 bt276.1 (List.replicate ((x1.length : Int) : Int).toNat 0) x57 x58 x1 (x1.length : Int) 0 x259000 x259001 x276000 x276001) else (none)) else (none))) else (some (x276000, x276001, 0))
def tens_Turn.l2 : Nat → List Int → List Int → Int → List Int → List Int → Int → Int → List Int → Int → Int → List Int → List Int → List Int → List Int → Option (List Int × List Int × Int)
 | 0, _, _, _, _, _, _, _, _, _, _, _, _, _, _ => none
 | k + 1, x1, x6, x11, x12, x14, x57, x58, x70, x71, x72, x259000, x259001, x276000, x276001 => if x72 < x71 then (if 0 ≤ x72 then (if x72 < (x70.length : Int) then (if x72 < (x12.length : Int) then (if 0 ≤ (rd x70 x72) then (if (rd x70 x72) < (x14.length : Int) then (tens_Turn.l2 k x1 x6 x11 x12 (x14.set ((rd x70 x72) : Int).toNat (rd x12 x72)) x57 x58 x70 x71 (wrap64 (x72 + 1)) x259000 x259001 x276000 x276001) else (none)) else (none)) else (none)) else (none)) else (none)) else ((shape_At.f k x259000 x14).bind fun bt286 => (if 0 ≤ bt286.1 then (if bt286.1 < (x259001.length : Int) then (if 0 ≤ x11 then (if x11 < (x276001.length : Int) then (tens_Turn.l1 k x1 x6 x57 (wrap64 (x58 + 1)) x259000 x259001 x276000 (x276001.set (x11 : Int).toNat (rd x259001 bt286.1))) else (none)) else (none)) else (none)) else (none)))
end
def tens_Turn.f (k : Nat) (l0_0 : List Int) (l0_1 : List Int) (l1 : List Int) : Option (List Int × List Int × Int) := (tens_Good.f k l0_0 l0_1).bind fun t260 => (if t260 = true then ((tens_permutes.f k l1 (l0_0.length : Int)).bind fun t261 => (tens_Turn.j0 k l1 (!t261) l0_0 l0_1)) else (tens_Turn.j0 k l1 true l0_0 l0_1))
theorem tens_Turn.mono_l : ∀ k, (∀ y0 y1 y2 y3, LeO (tens_Turn.j0 k y0 y1 y2 y3) (tens_Turn.j0 (k + 1) y0 y1 y2 y3)) ∧ (∀ y0 y1 y2 y3 y4 y5 y6, LeO (tens_Turn.l0 k y0 y1 y2 y3 y4 y5 y6) (tens_Turn.l0 (k + 1) y0 y1 y2 y3 y4 y5 y6)) ∧ (∀ y0 y1 y2 y3 y4 y5 y6 y7, LeO (tens_Turn.l1 k y0 y1 y2 y3 y4 y5 y6 y7) (tens_Turn.l1 (k + 1) y0 y1 y2 y3 y4 y5 y6 y7)) ∧ (∀ y0 y1 y2 y3 y4 y5 y6 y7 y8 y9 y10 y11 y12 y13, LeO (tens_Turn.l2 k y0 y1 y2 y3 y4 y5 y6 y7 y8 y9 y10 y11 y12 y13) (tens_Turn.l2 (k + 1) y0 y1 y2 y3 y4 y5 y6 y7 y8 y9 y10 y11 y12 y13))
 | 0 => ⟨fun _ _ _ _ r h => by simp [tens_Turn.j0] at h, fun _ _ _ _ _ _ _ r h => by simp [tens_Turn.l0] at h, fun _ _ _ _ _ _ _ _ r h => by simp [tens_Turn.l1] at h, fun _ _ _ _ _ _ _ _ _ _ _ _ _ _ r h => by simp [tens_Turn.l2] at h⟩
 | k + 1 => by
  obtain ⟨ih0, ih1, ih2, ih3⟩ := tens_Turn.mono_l k
  refine ⟨?_, ?_, ?_, ?_⟩
  ·intro y0 y1 y2 y3
   unfold tens_Turn.j0
   repeat' first
   | (with_reducible exact ih0 _ _ _ _)
   | (with_reducible exact ih1 _ _ _ _ _ _ _)
   | (with_reducible exact ih2 _ _ _ _ _ _ _ _)
   | (with_reducible exact ih3 _ _ _ _ _ _ _ _ _ _ _ _ _ _)
   | (with_reducible exact LeO.refl _)
   | (with_reducible exact LeO.none _)
   | (with_reducible refine LeO.ite ?_ ?_)
   | (with_reducible refine LeO.bind ?_ (fun _ => ?_))
   | exact ih0 _ _ _ _
   | exact ih1 _ _ _ _ _ _ _
   | exact ih2 _ _ _ _ _ _ _ _
   | exact ih3 _ _ _ _ _ _ _ _ _ _ _ _ _ _
   | exact LeO.none _
   | refine LeO.ite ?_ ?_
   | refine LeO.bind ?_ (fun _ => ?_)
  ·intro y0 y1 y2 y3 y4 y5 y6
   unfold tens_Turn.l0
   repeat' first
   | (with_reducible exact ih0 _ _ _ _)
   | (with_reducible exact ih1 _ _ _ _ _ _ _)
   | (with_reducible exact ih2 _ _ _ _ _ _ _ _)
   | (with_reducible exact ih3 _ _ _ _ _ _ _ _ _ _ _ _ _ _)
   | (with_reducible exact tens_New.mono _ _ _)
   | (with_reducible exact LeO.refl _)
   | (with_reducible exact LeO.none _)
   | (with_reducible refine LeO.ite ?_ ?_)
   | (with_reducible refine LeO.bind ?_ (fun _ => ?_))
   | exact ih0 _ _ _ _
   | exact ih1 _ _ _ _ _ _ _
   | exact ih2 _ _ _ _ _ _ _ _
   | exact ih3 _ _ _ _ _ _ _ _ _ _ _ _ _ _
   | exact tens_New.mono _ _ _
   | exact LeO.none _
   | refine LeO.ite ?_ ?_
   | refine LeO.bind ?_ (fun _ => ?_)
  ·intro y0 y1 y2 y3 y4 y5 y6 y7
   unfold tens_Turn.l1
   repeat' first
   | (with_reducible exact ih0 _ _ _ _)
   | (with_reducible exact ih1 _ _ _ _ _ _ _)
   | (with_reducible exact ih2 _ _ _ _ _ _ _ _)
   | (with_reducible exact ih3 _ _ _ _ _ _ _ _ _ _ _ _ _ _)
   | (with_reducible exact shape_Place.mono _ _ _)
   | (with_reducible exact LeO.refl _)
   | (with_reducible exact LeO.none _)
   | (with_reducible refine LeO.ite ?_ ?_)
   | (with_reducible refine LeO.bind ?_ (fun _ => ?_))
   | exact ih0 _ _ _ _
   | exact ih1 _ _ _ _ _ _ _
   | exact ih2 _ _ _ _ _ _ _ _
   | exact ih3 _ _ _ _ _ _ _ _ _ _ _ _ _ _
   | exact shape_Place.mono _ _ _
   | exact LeO.none _
   | refine LeO.ite ?_ ?_
   | refine LeO.bind ?_ (fun _ => ?_)
  ·intro y0 y1 y2 y3 y4 y5 y6 y7 y8 y9 y10 y11 y12 y13
   unfold tens_Turn.l2
   repeat' first
   | (with_reducible exact ih0 _ _ _ _)
   | (with_reducible exact ih1 _ _ _ _ _ _ _)
   | (with_reducible exact ih2 _ _ _ _ _ _ _ _)
   | (with_reducible exact ih3 _ _ _ _ _ _ _ _ _ _ _ _ _ _)
   | (with_reducible exact shape_At.mono _ _ _)
   | (with_reducible exact LeO.refl _)
   | (with_reducible exact LeO.none _)
   | (with_reducible refine LeO.ite ?_ ?_)
   | (with_reducible refine LeO.bind ?_ (fun _ => ?_))
   | exact ih0 _ _ _ _
   | exact ih1 _ _ _ _ _ _ _
   | exact ih2 _ _ _ _ _ _ _ _
   | exact ih3 _ _ _ _ _ _ _ _ _ _ _ _ _ _
   | exact shape_At.mono _ _ _
   | exact LeO.none _
   | refine LeO.ite ?_ ?_
   | refine LeO.bind ?_ (fun _ => ?_)
theorem tens_Turn.mono : ∀ a0 a1 a2 k, LeO (tens_Turn.f k a0 a1 a2) (tens_Turn.f (k + 1) a0 a1 a2) := by
 intro a0 a1 a2 k
 obtain ⟨ih0, ih1, ih2, ih3⟩ := tens_Turn.mono_l k
 unfold tens_Turn.f
 repeat' first
   | (with_reducible exact ih0 _ _ _ _)
   | (with_reducible exact ih1 _ _ _ _ _ _ _)
   | (with_reducible exact ih2 _ _ _ _ _ _ _ _)
   | (with_reducible exact ih3 _ _ _ _ _ _ _ _ _ _ _ _ _ _)
   | (with_reducible exact tens_Good.mono _ _ _)
   | (with_reducible exact tens_permutes.mono _ _ _)
   | (with_reducible exact LeO.refl _)
   | (with_reducible exact LeO.none _)
   | (with_reducible refine LeO.ite ?_ ?_)
   | (with_reducible refine LeO.bind ?_ (fun _ => ?_))
   | exact ih0 _ _ _ _
   | exact ih1 _ _ _ _ _ _ _
   | exact ih2 _ _ _ _ _ _ _ _
   | exact ih3 _ _ _ _ _ _ _ _ _ _ _ _ _ _
   | exact tens_Good.mono _ _ _
   | exact tens_permutes.mono _ _ _
   | exact LeO.none _
   | refine LeO.ite ?_ ?_
   | refine LeO.bind ?_ (fun _ => ?_)
def tens_Turn.T21 : Bool × List (List Nat × List Nat) := (true, [([], []), ([0], [0]), ([], []), ([], []), ([3], [3]), ([], []), ([4, 5], [4, 5]), ([6], [6]), ([1, 2, 0, 1, 2, 3, 4, 5, 6, 7], [1, 2]), ([8, 7, 0, 1, 2, 3, 4, 5, 6, 7], [7, 8])])
def tens_Turn.B21 : List Nat := [0, 1, 0, 0, 8, 0, 56, 120, 255, 511]
theorem tens_Turn.tab21 : rtab .any (opsOf Try.f25 21) = tens_Turn.T21 := by kernel_rfl
theorem tens_Turn.bits21 : waitsOk tens_Turn.T21.2 tens_Turn.B21 = true := by kernel_rfl
set_option maxHeartbeats 8000000 in
set_option maxRecDepth 100000 in
theorem tens_Turn.calls (k : Nat) (A0_0 : Option Addr) (c0_0 : Nat) (l0_0 : List Int) (A0_1 : Option Addr) (c0_1 : Nat) (l0_1 : List Int) (A1 : Option Addr) (c1 : Nat) (l1 : List Int) (r1 : List Int) (r2 : List Int) (r3 : Int) (w : World) (hr0_0 : Kd.C (Kd.int .i64) w A0_0 l0_0.length l0_0) (hc0_0 : l0_0.length ≤ c0_0) (hr0_1 : Kd.C (Kd.int .i64) w A0_1 l0_1.length l0_1) (hc0_1 : l0_1.length ≤ c0_1) (hr1 : Kd.C (Kd.int .i64) w A1 l1.length l1) (hc1 : l1.length ≤ c1) (h : tens_Turn.f k l0_0 l0_1 l1 = some (r1, r2, r3)) :
  Calls Try.prog 25 #[.agg #[.slice A0_0 l0_0.length c0_0, .slice A0_1 l0_1.length c0_1], .slice A1 l1.length c1] w fun e w' => ∃ v0_ v1_ : Value, e = .returned (.tuple #[.agg #[v0_, v1_], .int .i64 r3]) ∧ Kd.R (Kd.int .i64) 3 w' w.heap.size (fun _ => True) v0_ r1 ∧ Kd.R (Kd.int .i64) 23 w' w.heap.size (fun _ => True) v1_ r2 ∧ Below w.heap.size w w' := by
 have hu27 := Try.underlying27
 have HR0_0 := Aside0.mk hr0_0
 have HC0_0 := Aside0.mk hc0_0
 clear hr0_0 hc0_0
 have HR0_1 := Aside0.mk hr0_1
 have HC0_1 := Aside0.mk hc0_1
 clear hr0_1 hc0_1
 have HR1 := Aside0.mk hr1
 have HC1 := Aside0.mk hc1
 clear hr1 hc1
 have HB := Aside0.mk (Below.refl w.heap.size w)
 have H : ((tens_Good.f k l0_0 l0_1).bind fun t260 => (if t260 = true then ((tens_permutes.f k l1 (l0_0.length : Int)).bind fun t261 => (tens_Turn.j0 k l1 (!t261) l0_0 l0_1)) else (tens_Turn.j0 k l1 true l0_0 l0_1))) = some (r1, r2, r3) := h
 clear h
 have HC3 := Aside0.mk H
 clear H
 go_enter Try.func25, Try.ntmps25
 go_upto_region 1 with (first | ((with_reducible refine gate_dst (N := 2) rfl ?_); (try (refine gate_guard (by rfl) ?_; dsimp only)); refine box_event ?hg (N := 2) ?hd (cs := #[.slice A0_0 l0_0.length c0_0, .slice A0_1 l0_1.length c0_1]) (t := 27) ?hr ?_; (case hd => rfl); (case hg => rfl); (case hr => first | (go_simp; done) | (go_simp; rfl)); intro gb258 hg w4 hbox hb; have BK258 := Aside0.mk (hbox); have GW258 := Aside0.mk (zs_ hg (zw0_ HB)); have GE258 := Aside0.mk (zs_ hg (zw0_ HB)); replace HB := Aside0.mk (below_step (zw0_ HB) hb); clear hb hbox hg) | ((with_reducible refine gate_dst (N := 4) rfl ?_); (try (refine gate_guard (by rfl) ?_; dsimp only)); refine box_event ?hg (N := 4) ?hd (cs := #[.slice none 0 0, .slice none 0 0]) (t := 27) ?hr ?_; (case hd => rfl); (case hg => rfl); (case hr => first | (go_simp; done) | (go_simp; rfl)); intro gb259 hg w5 hbox hb; have BK259 := Aside0.mk (hbox); have GW259 := Aside0.mk (zs_ hg (zw1_ HB GE258)); have GE259 := Aside0.mk (zs_ hg (zw1_ HB GE258)); replace HB := Aside0.mk (below_step (zw1_ HB GE258) hb); have NB258_259 := Aside0.mk (zn_ hg BK258); have NB259_258 := Aside0.mk (zm_ hg BK258); replace BK258 := za_ BK258 hb; clear hb hbox hg))
 (try simp only [Act.put, List.setIfInBounds_toArray, List.set_cons_zero, List.set_cons_succ])
 go_cut [29] (fun v29 wc => ∃ (kq : Nat) (x29_2 : Bool), v29 = .bool x29_2 ∧ Aside0 (tens_Turn.j0 kq l1 x29_2 l0_0 l0_1 = some (r1, r2, r3)) ∧ Aside0 (kq ≤ k) ∧ Aside0 (wc.heap[gb258]? = some (.cells #[(.slice A0_0 l0_0.length c0_0), (.slice A0_1 l0_1.length c0_1)] 27 (0, 0))) ∧ Aside0 (wc.heap[gb259]? = some (.cells #[(.slice none 0 0), (.slice none 0 0)] 27 (0, 0))) ∧ Aside0 (Below w.heap.size w wc))
 case first =>
  have H := HC3.out
  clear HC3
  replace H := Option.bind_eq_some_iff.mp H
  obtain ⟨t260, A60, H⟩ := H
  (try dsimp only at H)
  have A6 := Aside0.mk A60
  clear A60
  by_cases c7 : t260 = true
  rotate_left
  ·replace c7 := Bool.eq_false_iff.mpr c7
   subst c7
   have H1 : (tens_Turn.j0 k l1 true l0_0 l0_1) = some (r1, r2, r3) := by rw [if_neg (show ¬ (false = true) by decide)] at H; exact H
   clear H
   have H := H1
   clear H1
   have H' := Aside0.mk H
   clear H
   have hnb13 := NB258_259.out
   have hnc13 := NB259_258.out
   have hcz14_0 := zx_ (v := .slice A0_0 l0_0.length c0_0) BK258 0
   have hcz14_1 := zx_ (v := .slice A0_1 l0_1.length c0_1) BK258 1
   have hfz14_0 := blk_frozen BK258.out 0
   have hfz14_1 := blk_frozen BK258.out 1
   go_wp2_with (first | ((with_reducible refine gate_callee (f := 16) rfl ?_); refine zg_ (some 20) Try.func16 #[.agg #[.slice A0_0 l0_0.length c0_0, .slice A0_1 l0_1.length c0_1]] (h := ?_); (with_reducible refine (tens_Good.calls k _ _ l0_0 _ _ l0_1 false _ ?side1 ?side2 ?side3 ?side4 A6.out).mono ?_); (case side1 => exact zk_ (Kd.C_below HR0_0.out HB.out)); (case side2 => exact HC0_0.out); (case side3 => exact zk_ (Kd.C_below HR0_1.out HB.out)); (case side4 => exact HC0_1.out); rintro e w15 ⟨rfl, hb⟩; refine ⟨_, rfl, ?_⟩; replace BK258 := za_ BK258 hb; replace BK259 := za_ BK259 hb; replace HB := Aside0.mk (below_step (zw2_ HB GE258 GE259) hb); (try clear hb)))
   go_meet
   case rel => exact ⟨_, (true), z1_, H', ⟨by first | omega | exact Nat.le_refl _⟩, ⟨zb_ BK258⟩, ⟨zb_ BK259⟩, ⟨zw2_ HB GE258 GE259⟩⟩
  subst c7
  have H1 := H
  rw [if_pos rfl] at H1
  clear H
  have H := H1
  clear H1
  replace H := Option.bind_eq_some_iff.mp H
  obtain ⟨t261, A80, H⟩ := H
  replace H : (tens_Turn.j0 k l1 (!t261) l0_0 l0_1) = some (r1, r2, r3) := H
  have A8 := Aside0.mk A80
  clear A80
  have H' := Aside0.mk H
  clear H
  have hnb9 := NB258_259.out
  have hnc9 := NB259_258.out
  have hcz10_0 := zx_ (v := .slice A0_0 l0_0.length c0_0) BK258 0
  have hcz10_1 := zx_ (v := .slice A0_1 l0_1.length c0_1) BK258 1
  have hfz10_0 := blk_frozen BK258.out 0
  have hfz10_1 := blk_frozen BK258.out 1
  go_wp2_with (first | ((with_reducible refine gate_callee (f := 16) rfl ?_); refine zg_ (some 20) Try.func16 #[.agg #[.slice A0_0 l0_0.length c0_0, .slice A0_1 l0_1.length c0_1]] (h := ?_); (with_reducible refine (tens_Good.calls k _ _ l0_0 _ _ l0_1 true _ ?side1 ?side2 ?side3 ?side4 A6.out).mono ?_); (case side1 => exact zk_ (Kd.C_below HR0_0.out HB.out)); (case side2 => exact HC0_0.out); (case side3 => exact zk_ (Kd.C_below HR0_1.out HB.out)); (case side4 => exact HC0_1.out); rintro e w11 ⟨rfl, hb⟩; refine ⟨_, rfl, ?_⟩; replace BK258 := za_ BK258 hb; replace BK259 := za_ BK259 hb; replace HB := Aside0.mk (below_step (zw2_ HB GE258 GE259) hb); (try clear hb); have hcz12_0 := zx_ (v := .slice A0_0 l0_0.length c0_0) BK258 0; have hcz12_1 := zx_ (v := .slice A0_1 l0_1.length c0_1) BK258 1; have hfz12_0 := blk_frozen BK258.out 0; have hfz12_1 := blk_frozen BK258.out 1) | (go_at_call 51; (with_reducible refine (tens_permutes.calls k _ _ l1 (l0_0.length : Int) t261 _ ?side1 ?side2 A8.out).mono ?_); (case side1 => exact zk_ (Kd.C_below HR1.out HB.out)); (case side2 => exact HC1.out); rintro e w' ⟨rfl, ⟨nd, rfl⟩⟩))
  go_meet
  case rel => exact ⟨_, (!t261), z1_, H', ⟨by first | omega | exact Nat.le_refl _⟩, ⟨zb_ BK258⟩, ⟨zb_ BK259⟩, ⟨zw2_ HB GE258 GE259⟩⟩
 case rest =>
  clear HC3
  try clear c1
  try clear c2
  try clear p2
  try clear c7
  try clear c9
  try clear c13
  try clear hcz10_0
  try clear hcz10_1
  try clear hcz12_0
  try clear hcz12_1
  try clear hcz14_0
  try clear hcz14_1
  try clear hfz10_0
  try clear hfz10_1
  try clear hfz12_0
  try clear hfz12_1
  try clear hfz14_0
  try clear hfz14_1
  obtain ⟨kq, x29_2, rfl, HA, HJ2, BK258, BK259, HB⟩ := hcut
  cases kq with
  | zero => exact absurd HA.out (by simp [tens_Turn.j0])
  | succ kj2 =>
   have H := HA.out
   clear HA
   simp only [tens_Turn.j0] at H
   by_cases c16 : x29_2 = true
   ·subst c16
    have H1 : (some (([] : List Int), ([] : List Int), 1)) = some (r1, r2, r3) := by rw [if_pos rfl] at H; exact H
    clear H
    have H := H1
    clear H1
    simp only [Option.some.injEq, Prod.mk.injEq] at H
    obtain ⟨rfl, rfl, rfl⟩ := H
    have hnb17 := NB259_258.out
    have hnc17 := NB258_259.out
    have hcz18_0 := zx_ (v := .slice none 0 0) BK259 0
    have hcz18_1 := zx_ (v := .slice none 0 0) BK259 1
    have hfz18_0 := blk_frozen BK259.out 0
    have hfz18_1 := blk_frozen BK259.out 1
    go_wp2
    refine bodyPost_ret (results_ct rfl _ _ gb259 27 #[.slice none 0 0, .slice none 0 0] (0, 0) _ rfl (zo2_ BK259) Try.underlying27 rfl (by kernel_rfl)) rfl ?_
    exact ⟨_, _, z0_, z2_, z2_, zw2_ HB GE258 GE259⟩
   replace c16 := Bool.eq_false_iff.mpr c16
   subst c16
   have H1 := H
   rw [if_neg (show ¬ (false = true) by decide)] at H1
   clear H
   have H := H1
   clear H1
   by_cases c19 : 0 ≤ (l1.length : Int)
   rotate_left
   ·rw [if_neg c19] at H
    exact absurd H (by simp)
   rw [if_pos c19] at H
   have c19b0 := eq_true c19
   have c19b1 : decide (0 ≤ (l1.length : Int)) = true := decide_eq_true c19
   clear c19
   by_cases c20 : ((l1.length : Int) : Int).toNat ≤ 35184372088832
   rotate_left
   ·rw [if_neg c20] at H
    exact absurd H (by simp)
   rw [if_pos c20] at H
   have c20b0 := eq_true c20
   have c20b1 : decide (((l1.length : Int) : Int).toNat ≤ 35184372088832) = true := decide_eq_true c20
   clear c20
   obtain ⟨y262, hy262⟩ : ∃ y_ : List Int, y_ = (List.replicate ((l1.length : Int) : Int).toNat 0) := ⟨_, rfl⟩
   replace H : (tens_Turn.l0 kj2 l1 y262 l1 (l1.length : Int) 0 l0_0 l0_1) = some (r1, r2, r3) := by first | (rw [hy262]; with_reducible exact H) | (have H2_ := (Option.bind_some _ _).symm.trans H; rw [hy262]; with_reducible exact H2_) | (have H2_ := (Option.bind_some _ _).symm.trans H; with_reducible exact H2_) | with_reducible exact H | (rw [hy262]; exact H) | exact H
   have Ny262 := Aside0.mk hy262
   clear hy262
   have H' := Aside0.mk H
   clear H
   go_wp2_with (first | ((with_reducible refine gate_dst (N := 33) rfl ?_); (try (refine gate_guard (by rfl) ?_; dsimp only)); refine Kd.R_make (Kd.int .i64) _ 3 rfl (N := 33) rfl 22 _ _ rfl (l1.length : Int) rfl rfl Try.underlying22 (.int .i64 0) 8 info3 rfl (by decide) (by omega) 0 (ok := fun _ => True) (okp := fun _ => True) rfl (fun _ hk => hk) trivial (of_decide_eq_true (by first | (with_reducible assumption) | assumption)) (Nat.le_trans (Nat.mul_le_mul_right _ (of_decide_eq_true (by first | (with_reducible assumption) | assumption) : (l1.length : Int).toNat ≤ 35184372088832)) (by omega)) (Below.refl _ _) (Nat.le_refl _) ?_; intro v263 w21 ho22 hb hg_ hnew_; clear hg_ hnew_; (first | rw [← Ny262.out] at ho22 | (simp only [Int.reduceToNat] at ho22; rw [← Ny262.out] at ho22)); have HO264 := Aside0.mk (Kd.R_lower ho22 (below_size (zw2_ HB GE258 GE259))); replace BK258 := za_ BK258 hb; replace BK259 := za_ BK259 hb; replace HB := Aside0.mk (below_step (zw2_ HB GE258 GE259) hb); clear hb ho22))
   go_loopg [36] kj2 (fun kq v36 w' => ∃ (x6_2 : List Int) (x36_2 : Int), v36 = .int .i64 x36_2 ∧ Aside0 (tens_Turn.l0 kq l1 x6_2 l1 (l1.length : Int) x36_2 l0_0 l0_1 = some (r1, r2, r3)) ∧ Aside0 (kq ≤ kj2) ∧ Aside0 (Kd.R (Kd.int .i64) 3 w' w.heap.size (fun _ => True) v263 x6_2) ∧ Aside0 (w'.heap[gb258]? = some (.cells #[(.slice A0_0 l0_0.length c0_0), (.slice A0_1 l0_1.length c0_1)] 27 (0, 0))) ∧ Aside0 (w'.heap[gb259]? = some (.cells #[(.slice none 0 0), (.slice none 0 0)] 27 (0, 0))) ∧ Aside0 (Below w.heap.size w w'))
   case atStart => exact ⟨(y262), (0), z1_, H', ⟨Nat.le_refl _⟩, ⟨zr_ HO264.out⟩, ⟨zb_ BK258⟩, ⟨zb_ BK259⟩, ⟨zw2_ HB GE258 GE259⟩⟩
   case round =>
    clear H'
    try clear c1
    try clear c2
    try clear p2
    try clear c7
    try clear c9
    try clear c13
    try clear c16
    try clear c17
    try clear c19
    try clear c19b0
    try clear c19b1
    try clear c20
    try clear c20b0
    try clear c20b1
    try clear hcz10_0
    try clear hcz10_1
    try clear hcz12_0
    try clear hcz12_1
    try clear hcz14_0
    try clear hcz14_1
    try clear hcz18_0
    try clear hcz18_1
    try clear hfz10_0
    try clear hfz10_1
    try clear hfz12_0
    try clear hfz12_1
    try clear hfz14_0
    try clear hfz14_1
    try clear hfz18_0
    try clear hfz18_1
    try clear p2
    obtain ⟨x6_2, x36_2, rfl, HA, HK2, HO_6, BK258, BK259, HB⟩ := hrel
    cases gk with
    | zero => exact absurd HA.out (by simp [tens_Turn.l0])
    | succ k2 =>
     have H := HA.out
     clear HA
     simp only [tens_Turn.l0] at H
     by_cases c23 : x36_2 < (l1.length : Int)
     ·rw [if_pos c23] at H
      have c23b0 : decide (x36_2 < (l1.length : Int)) = true := decide_eq_true c23
      clear c23
      by_cases c24 : 0 ≤ x36_2
      rotate_left
      ·rw [if_neg c24] at H
       exact absurd H (by simp)
      rw [if_pos c24] at H
      have c24b0 : decide (0 ≤ x36_2) = true := decide_eq_true c24
      clear c24
      by_cases c25 : x36_2 < (l1.length : Int)
      rotate_left
      ·rw [if_neg c25] at H
       exact absurd H (by simp)
      rw [if_pos c25] at H
      have c25b0 : decide (x36_2 < (l1.length : Int)) = true := decide_eq_true c25
      clear c25
      by_cases c26 : 0 ≤ (rd l1 x36_2)
      rotate_left
      ·rw [if_neg c26] at H
       exact absurd H (by simp)
      rw [if_pos c26] at H
      have c26b0 : decide (0 ≤ (rd l1 x36_2)) = true := decide_eq_true c26
      clear c26
      by_cases c27 : (rd l1 x36_2) < (l0_0.length : Int)
      rotate_left
      ·rw [if_neg c27] at H
       exact absurd H (by simp)
      rw [if_pos c27] at H
      have c27b0 : decide ((rd l1 x36_2) < (l0_0.length : Int)) = true := decide_eq_true c27
      clear c27
      by_cases c28 : x36_2 < (x6_2.length : Int)
      rotate_left
      ·rw [if_neg c28] at H
       exact absurd H (by simp)
      rw [if_pos c28] at H
      have c28b0 : decide (x36_2 < (x6_2.length : Int)) = true := decide_eq_true c28
      clear c28
      obtain ⟨y267, hy267⟩ : ∃ y_ : List Int, y_ = (x6_2.set (x36_2 : Int).toNat (rd l0_0 (rd l1 x36_2))) := ⟨_, rfl⟩
      replace H : (tens_Turn.l0 k2 l1 y267 l1 (l1.length : Int) (wrap64 (x36_2 + 1)) l0_0 l0_1) = some (r1, r2, r3) := by first | (rw [hy267]; with_reducible exact H) | (have H2_ := (Option.bind_some _ _).symm.trans H; rw [hy267]; with_reducible exact H2_) | (have H2_ := (Option.bind_some _ _).symm.trans H; with_reducible exact H2_) | with_reducible exact H | (rw [hy267]; exact H) | exact H
      have Ny267 := Aside0.mk hy267
      clear hy267
      have H' := Aside0.mk H
      clear H
      have p265 : 0 ≤ (x36_2 : Int) := of_decide_eq_true (by first | (with_reducible assumption) | assumption)
      have q265 : x36_2 < (l1.length : Int) := of_decide_eq_true (by first | (with_reducible assumption) | assumption)
      obtain ⟨ad265, e265, hx265_0⟩ := Kd.at_int HR1.out x36_2 p265 q265
      cases e265
      replace hx265_0 := (HB.out.cell (World.block_lt_of_cell? w _ hx265_0)).trans hx265_0
      replace p265 := eq_true p265
      replace q265 := eq_true q265
      have hnb30 := NB258_259.out
      have hnc30 := NB259_258.out
      have hcz31_0 := zx_ (v := .slice A0_0 l0_0.length c0_0) BK258 0
      have hcz31_1 := zx_ (v := .slice A0_1 l0_1.length c0_1) BK258 1
      have hfz31_0 := blk_frozen BK258.out 0
      have hfz31_1 := blk_frozen BK258.out 1
      have p266 : 0 ≤ ((rd l1 x36_2) : Int) := of_decide_eq_true (by first | (with_reducible assumption) | assumption)
      have q266 : (rd l1 x36_2) < (l0_0.length : Int) := of_decide_eq_true (by first | (with_reducible assumption) | assumption)
      obtain ⟨ad266, e266, hx266_0⟩ := Kd.at_int HR0_0.out (rd l1 x36_2) p266 q266
      cases e266
      replace hx266_0 := (HB.out.cell (World.block_lt_of_cell? w _ hx266_0)).trans hx266_0
      replace p266 := eq_true p266
      replace q266 := eq_true q266
      have p29 : 0 ≤ (x36_2 : Int) := of_decide_eq_true (by first | (with_reducible assumption) | assumption)
      have q29 : (x36_2 : Int) < ((x6_2.length : Int) : Int) := of_decide_eq_true (by first | (with_reducible assumption) | assumption)
      obtain ⟨go29, co29, eo29, gb29, gl29, cl29, HG29⟩ := Kd.R_form HO_6.out (by omega)
      (first | cases eo29 | (injection eo29 with ea_ en_ ec_; (first | subst ea_ | (injection ea_ with ea_; subst ea_)); subst ec_; clear en_))
      have GB29 := Aside0.mk gb29
      have GG29 := Aside0.mk HG29
      clear gb29 gl29 HG29
      obtain ⟨hx29_0, hf29_0⟩ := Kd.R_celln 0 HO_6.out (x36_2 : Int) p29 q29
      replace p29 := eq_true p29
      replace q29 := eq_true q29
      have HP32 := Kd.R_putg HO_6.out (x36_2 : Int) (rd l0_0 (rd l1 x36_2))
      go_wp2_with (first | ((with_reducible refine gate_store (t := 3) (p := 48) rfl ?_); refine store_event (t := 3) (p := 48) (v := ?vo_w33) (w1 := (wr.setCell ⟨go29, (x36_2 : Int).toNat, none⟩ (.int .i64 (rd l0_0 (rd l1 x36_2))))) ?hg ?ho ?hn ?hr ?_; (case ho => rfl); (case hg => rfl); (case hn => rfl); (case hr => first | (go_simp; done) | (go_simp; rfl)); intro w33 hw; have hg : wr.grownBy w33 (some go29) := (by rw [hw]; exact HP32.2); have hp_ : Kd.R (Kd.int .i64) 3 w33 w.heap.size (fun _ => True) (.slice (some ⟨go29, 0, none⟩) x6_2.length co29) y267 := (by rw [hw, Ny267.out]; exact HP32.1); clear HP32; replace BK258 := Aside0.mk (zh_ BK258 hg (Kd.R_ne HO_6.out BK258.out (by decide))); replace BK259 := Aside0.mk (zh_ BK259 hg (Kd.R_ne HO_6.out BK259.out (by decide))); replace HO_6 := Aside0.mk (hp_); replace HB := Aside0.mk ((by rw [hw]; exact below_set (HB.out) GB29.out : Below w.heap.size w w33)); clear hg hw hp_))
      go_roundg k2
      case measure => have := HJ2.out; have := HK2.out; omega
      case rel => exact ⟨(y267), (wrap64 (x36_2 + 1)), z1_, H', ⟨by have := HJ2.out; have := HK2.out; omega⟩, ⟨zr_ HO_6.out⟩, ⟨zb_ BK258⟩, ⟨zb_ BK259⟩, ⟨zw2_ HB GE258 GE259⟩⟩
     rw [if_neg c23] at H
     have c23b0 : decide (x36_2 < (l1.length : Int)) = false := decide_eq_false c23
     clear c23
     replace H := Option.bind_eq_some_iff.mp H
     obtain ⟨⟨t268, t271, t274⟩, A340, H⟩ := H
     replace H : (tens_Turn.l1 k2 l1 x6_2 (t271.length : Int) 0 l0_0 l0_1 t268 t271) = some (r1, r2, r3) := H
     have A34 := Aside0.mk A340
     clear A340
     have H' := Aside0.mk H
     clear H
     obtain ⟨Ao35, co35, eo35⟩ := Kd.R_slice HO_6.out
     subst eo35
     go_wp2_with (first | ((with_reducible refine gate_callee (f := 12) rfl ?_); refine zg_ (some 52) Try.func12 #[.slice Ao35 x6_2.length co35, .int .i64 0] (h := ?_); (with_reducible refine (tens_New.calls k2 _ _ x6_2 0 t268 t271 t274 _ ?side1 ?side2 A34.out).mono ?_); (case side1 => exact zk_ ((Kd.R_reads' HO_6.out).2.2)); (case side2 => exact (Kd.R_reads' HO_6.out).2.1); rintro e w36 ⟨v269, v272, rfl, ho0, ho1, hb⟩; refine ⟨_, rfl, ?_⟩; have HO270 := Aside0.mk (Kd.R_lower (Kd.R_new' ho0 (Kd.R_lt (zr_ HO_6.out))) (below_size (zw2_ HB GE258 GE259))); replace HO_6 := ze_ HO_6 ho0 hb; have HO273 := Aside0.mk (Kd.R_lower ho1 (below_size (zw2_ HB GE258 GE259))); replace BK258 := za_ BK258 hb; replace BK259 := za_ BK259 hb; replace HB := Aside0.mk (below_step (zw2_ HB GE258 GE259) hb); (try clear hb); (try clear ho0); (try clear ho1)) | ((with_reducible refine gate_dst (N := 9) rfl ?_); (try (refine gate_guard (by rfl) ?_; dsimp only)); refine box_event ?hg (N := 9) ?hd (cs := #[.slice none 0 0, .slice none 0 0]) (t := 27) ?hr ?_; (case hd => rfl); (case hg => rfl); (case hr => first | (go_simp; done) | (go_simp; rfl)); intro gb275 hg w37 hbox hb; replace HO_6 := zy_ HO_6 hb; replace HO270 := zy_ HO270 hb; replace HO273 := zy_ HO273 hb; have BK275 := Aside0.mk (hbox); have GW275 := Aside0.mk (zs_ hg (zw2_ HB GE258 GE259)); have GE275 := Aside0.mk (zs_ hg (zw2_ HB GE258 GE259)); replace HB := Aside0.mk (below_step (zw2_ HB GE258 GE259) hb); have NB258_275 := Aside0.mk (zn_ hg BK258); have NB275_258 := Aside0.mk (zm_ hg BK258); replace BK258 := za_ BK258 hb; have NB259_275 := Aside0.mk (zn_ hg BK259); have NB275_259 := Aside0.mk (zm_ hg BK259); replace BK259 := za_ BK259 hb; clear hb hbox hg; obtain ⟨Ao38, co38, eo38⟩ := Kd.R_slice HO270.out; subst eo38; have hnb39 := NB275_258.out; have hnc39 := NB258_275.out; have hnb40 := NB275_259.out; have hnc40 := NB259_275.out; have hcz41_0 := zx_ (v := .slice none 0 0) BK275 0; have hcz41_1 := zx_ (v := .slice none 0 0) BK275 1; have hfz41_0 := blk_frozen BK275.out 0; have hfz41_1 := blk_frozen BK275.out 1; obtain ⟨Ao42, co42, eo42⟩ := Kd.R_slice HO273.out; subst eo42))
     go_loopg [58] k2 (fun kq v58 w' => ∃ (x6_3 : List Int) (x58_3 : Int) (x276000_3 : List Int) (x276001_3 : List Int) (u276000 : Value) (u276001 : Value), v58 = .int .i64 x58_3 ∧ Aside0 (tens_Turn.l1 kq l1 x6_3 (t271.length : Int) x58_3 l0_0 l0_1 x276000_3 x276001_3 = some (r1, r2, r3)) ∧ Aside0 (kq ≤ k2) ∧ Aside0 (Kd.R (Kd.int .i64) 3 w' w.heap.size (fun k_ => some k_ ≠ (u276000 : Value).ownBlock) (.slice Ao35 x6_2.length co35) x6_3) ∧ Aside0 (Kd.R (Kd.int .i64) 3 w' w.heap.size (fun k_ => some k_ ≠ ((.slice Ao35 x6_2.length co35) : Value).ownBlock) u276000 x276000_3) ∧ Aside0 (Kd.R (Kd.int .i64) 23 w' w.heap.size (fun _ => True) u276001 x276001_3) ∧ Aside0 (w'.heap[gb258]? = some (.cells #[(.slice A0_0 l0_0.length c0_0), (.slice A0_1 l0_1.length c0_1)] 27 (0, 0))) ∧ Aside0 (w'.heap[gb259]? = some (.cells #[(.slice none 0 0), (.slice none 0 0)] 27 (0, 0))) ∧ Aside0 (w'.heap[gb275]? = some (.cells #[u276000, u276001] 27 (0, 0))) ∧ Aside0 (Below w.heap.size w w'))
     case atStart => exact ⟨(x6_2), (0), (t268), (t271), (.slice Ao38 t268.length co38), (.slice Ao42 t271.length co42), z1_, H', ⟨Nat.le_refl _⟩, ⟨zr_ (Kd.R_mono (Kd.R_far (p := ⟨gb275, 1, none⟩) (Kd.R_far (p := ⟨gb275, 0, none⟩) (Kd.R_types HO_6.out BK275.out (by decide)) (fun _ hk => hk.2) (.slice Ao38 t268.length co38)) (fun _ hk => hk.2) (.slice Ao42 t271.length co42)) (fun _ hk => hk.1.2))⟩, ⟨zr_ (Kd.R_mono (Kd.R_far (p := ⟨gb275, 1, none⟩) (Kd.R_far (p := ⟨gb275, 0, none⟩) (Kd.R_types HO270.out BK275.out (by decide)) (fun _ hk => hk.2) (.slice Ao38 t268.length co38)) (fun _ hk => hk.2) (.slice Ao42 t271.length co42)) (fun _ hk => hk.1.2))⟩, ⟨zr_ (Kd.R_mono (Kd.R_far (p := ⟨gb275, 1, none⟩) (Kd.R_far (p := ⟨gb275, 0, none⟩) (Kd.R_types HO273.out BK275.out (by decide)) (fun _ hk => hk.2) (.slice Ao38 t268.length co38)) (fun _ hk => hk.2) (.slice Ao42 t271.length co42)) (fun _ hk => trivial))⟩, ⟨zv1_ BK258 NB258_275⟩, ⟨zv1_ BK259 NB259_275⟩, ⟨zo2_ BK275⟩, ⟨zw3_ HB GE258 GE259 GE275⟩⟩
     case round =>
      clear H'
      try clear c1
      try clear c2
      try clear p2
      try clear q2
      try clear hx2
      try clear hf2
      try clear c3
      try clear c4
      try clear p6
      try clear c7
      try clear c9
      try clear c12
      try clear c13
      try clear c16
      try clear c17
      try clear c19
      try clear c19b0
      try clear c19b1
      try clear c20
      try clear c20b0
      try clear c20b1
      try clear c23
      try clear c23b0
      try clear c24
      try clear c24b0
      try clear c25
      try clear c25b0
      try clear c26
      try clear c26b0
      try clear p26
      try clear q26
      try clear hx26
      try clear c27
      try clear c27b0
      try clear c28
      try clear c28b0
      try clear p29
      try clear q29
      try clear hx29
      try clear hf29
      try clear c30
      try clear c39
      try clear c40
      try clear hcz10_0
      try clear hcz10_1
      try clear hcz12_0
      try clear hcz12_1
      try clear hcz14_0
      try clear hcz14_1
      try clear hcz18_0
      try clear hcz18_1
      try clear hcz31_0
      try clear hcz31_1
      try clear hcz41_0
      try clear hcz41_1
      try clear hfz10_0
      try clear hfz10_1
      try clear hfz12_0
      try clear hfz12_1
      try clear hfz14_0
      try clear hfz14_1
      try clear hfz18_0
      try clear hfz18_1
      try clear hfz31_0
      try clear hfz31_1
      try clear hfz41_0
      try clear hfz41_1
      try clear hx265_0
      try clear hx266_0
      try clear hx29_0
      try clear p2
      try clear p265
      try clear p266
      try clear p29
      try clear q265
      try clear q266
      try clear q29
      obtain ⟨x6_3, x58_3, x276000_3, x276001_3, u276000, u276001, rfl, HA, HK3, HO_6, HO_276000, HO_276001, BK258, BK259, BK275, HB⟩ := hrel
      have hl6_3 := (Kd.R_reads' HO_6.out).1
      rw [hl6_3] at HO_6
      (try simp only [hl6_3])
      (try simp only [hl6_3] at BK258)
      (try simp only [hl6_3] at BK259)
      (try simp only [hl6_3] at BK275)
      (try simp only [hl6_3] at HO_276000)
      (try simp only [hl6_3] at HO_276001)
      cases gk with
      | zero => exact absurd HA.out (by simp [tens_Turn.l1])
      | succ k3 =>
       have H := HA.out
       clear HA
       simp only [tens_Turn.l1] at H
       by_cases c43 : x58_3 < (t271.length : Int)
       rotate_left
       ·rw [if_neg c43] at H
        have c43b0 : decide (x58_3 < (t271.length : Int)) = false := decide_eq_false c43
        clear c43
        simp only [Option.some.injEq, Prod.mk.injEq] at H
        obtain ⟨rfl, rfl, rfl⟩ := H
        have hnb72 := NB275_258.out
        have hnc72 := NB258_275.out
        have hnb73 := NB275_259.out
        have hnc73 := NB259_275.out
        have hcz74_0 := zx_ (v := u276000) BK275 0
        have hcz74_1 := zx_ (v := u276001) BK275 1
        have hfz74_0 := blk_frozen BK275.out 0
        have hfz74_1 := blk_frozen BK275.out 1
        obtain ⟨Ao75, co75, eo75⟩ := Kd.R_slice HO_276000.out
        subst eo75
        have hnb76 := NB259_258.out
        have hnc76 := NB258_259.out
        have hcz77_0 := zx_ (v := .slice none 0 0) BK259 0
        have hcz77_1 := zx_ (v := .slice none 0 0) BK259 1
        have hfz77_0 := blk_frozen BK259.out 0
        have hfz77_1 := blk_frozen BK259.out 1
        obtain ⟨Ao78, co78, eo78⟩ := Kd.R_slice HO_276001.out
        subst eo78
        go_wp2
        refine bodyPost_ret (results_ct rfl _ _ gb259 27 #[.slice Ao75 x276000_3.length co75, .slice Ao78 x276001_3.length co78] (0, 0) _ rfl (zo2_ BK259) Try.underlying27 rfl (by kernel_rfl)) rfl ?_
        exact ⟨_, _, z0_, zr_ (Kd.R_mono (Kd.R_far (p := ⟨gb259, 1, none⟩) (Kd.R_far (p := ⟨gb259, 0, none⟩) (Kd.R_types HO_276000.out BK259.out (by decide)) (fun _ hk => hk.2) (.slice Ao75 x276000_3.length co75)) (fun _ hk => hk.2) (.slice Ao78 x276001_3.length co78)) (fun _ hk => trivial)), zr_ (Kd.R_mono (Kd.R_far (p := ⟨gb259, 1, none⟩) (Kd.R_far (p := ⟨gb259, 0, none⟩) (Kd.R_types HO_276001.out BK259.out (by decide)) (fun _ hk => hk.2) (.slice Ao75 x276000_3.length co75)) (fun _ hk => hk.2) (.slice Ao78 x276001_3.length co78)) (fun _ hk => trivial)), zw3_ HB GE258 GE259 GE275⟩
       rw [if_pos c43] at H
       have c43b0 : decide (x58_3 < (t271.length : Int)) = true := decide_eq_true c43
       clear c43
       replace H := Option.bind_eq_some_iff.mp H
       obtain ⟨⟨t276, t277⟩, A440, H⟩ := H
       (try dsimp only at H)
       have A44 := Aside0.mk A440
       clear A440
       by_cases c45 : 0 ≤ (l1.length : Int)
       rotate_left
       ·rw [if_neg c45] at H
        exact absurd H (by simp)
       rw [if_pos c45] at H
       have c45b0 := eq_true c45
       have c45b1 : decide (0 ≤ (l1.length : Int)) = true := decide_eq_true c45
       clear c45
       by_cases c46 : ((l1.length : Int) : Int).toNat ≤ 35184372088832
       rotate_left
       ·rw [if_neg c46] at H
        exact absurd H (by simp)
       rw [if_pos c46] at H
       have c46b0 := eq_true c46
       have c46b1 : decide (((l1.length : Int) : Int).toNat ≤ 35184372088832) = true := decide_eq_true c46
       clear c46
       obtain ⟨y280, hy280⟩ : ∃ y_ : List Int, y_ = (List.replicate ((l1.length : Int) : Int).toNat 0) := ⟨_, rfl⟩
       replace H : (tens_Turn.l2 k3 l1 x6_3 x58_3 t276 y280 (t271.length : Int) x58_3 l1 (l1.length : Int) 0 l0_0 l0_1 x276000_3 x276001_3) = some (r1, r2, r3) := by first | (rw [hy280]; with_reducible exact H) | (have H2_ := (Option.bind_some _ _).symm.trans H; rw [hy280]; with_reducible exact H2_) | (have H2_ := (Option.bind_some _ _).symm.trans H; with_reducible exact H2_) | with_reducible exact H | (rw [hy280]; exact H) | exact H
       have Ny280 := Aside0.mk hy280
       clear hy280
       have H' := Aside0.mk H
       clear H
       go_wp2_with (first | ((with_reducible refine gate_callee (f := 52) rfl ?_); refine zg_ (some 64) Try.func52 #[.slice Ao35 x6_3.length co35, .int .i64 x58_3] (h := ?_); (with_reducible refine (shape_Place.calls k3 _ _ x6_3 x58_3 t276 t277 _ ?side1 ?side2 A44.out).mono ?_); (case side1 => exact zk_ ((Kd.R_reads' HO_6.out).2.2)); (case side2 => exact (Kd.R_reads' HO_6.out).2.1); rintro e w47 ⟨v278, rfl, ho0, hb⟩; refine ⟨_, rfl, ?_⟩; replace HO_276001 := zy_ HO_276001 hb; have HO279 := Aside0.mk (Kd.R_lower (Kd.R_new' (Kd.R_new' ho0 (Kd.R_lt (zr_ HO_6.out))) (Kd.R_lt (zr_ HO_276000.out))) (below_size (zw3_ HB GE258 GE259 GE275))); replace HO_6 := ze_ HO_6 ho0 hb; replace HO_276000 := ze_ HO_276000 ho0 hb; replace BK258 := za_ BK258 hb; replace BK259 := za_ BK259 hb; replace BK275 := za_ BK275 hb; replace HB := Aside0.mk (below_step (zw3_ HB GE258 GE259 GE275) hb); (try clear hb); (try clear ho0)) | ((with_reducible refine gate_dst (N := 69) rfl ?_); (try (refine gate_guard (by rfl) ?_; dsimp only)); refine Kd.R_make (Kd.int .i64) _ 3 rfl (N := 69) rfl 22 _ _ rfl (l1.length : Int) rfl rfl Try.underlying22 (.int .i64 0) 8 info3 rfl (by decide) (by omega) 0 (ok := fun _ => True) (okp := fun _ => True) rfl (fun _ hk => hk) trivial (of_decide_eq_true (by first | (with_reducible assumption) | assumption)) (Nat.le_trans (Nat.mul_le_mul_right _ (of_decide_eq_true (by first | (with_reducible assumption) | assumption) : (l1.length : Int).toNat ≤ 35184372088832)) (by omega)) (Below.refl _ _) (Nat.le_refl _) ?_; intro v281 w48 ho49 hb hg_ hnew_; clear hg_ hnew_; (first | rw [← Ny280.out] at ho49 | (simp only [Int.reduceToNat] at ho49; rw [← Ny280.out] at ho49)); replace HO_276001 := zy_ HO_276001 hb; have HO282 := Aside0.mk (Kd.R_lower (Kd.R_new' (Kd.R_new' (Kd.R_new' ho49 (Kd.R_lt (zr_ HO_6.out))) (Kd.R_lt (zr_ HO_276000.out))) (Kd.R_lt (zr_ HO279.out))) (below_size (zw3_ HB GE258 GE259 GE275))); replace HO_6 := ze_ HO_6 ho49 hb; replace HO_276000 := ze_ HO_276000 ho49 hb; replace HO279 := ze_ HO279 ho49 hb; replace BK258 := za_ BK258 hb; replace BK259 := za_ BK259 hb; replace BK275 := za_ BK275 hb; replace HB := Aside0.mk (below_step (zw3_ HB GE258 GE259 GE275) hb); clear hb ho49))
       go_loopg [72] k3 (fun kq v72 w' => ∃ (x14_4 : List Int) (x72_4 : Int), v72 = .int .i64 x72_4 ∧ Aside0 (tens_Turn.l2 kq l1 x6_3 x58_3 t276 x14_4 (t271.length : Int) x58_3 l1 (l1.length : Int) x72_4 l0_0 l0_1 x276000_3 x276001_3 = some (r1, r2, r3)) ∧ Aside0 (kq ≤ k3) ∧ Aside0 (Kd.R (Kd.int .i64) 3 w' w.heap.size (fun k_ => some k_ ≠ (v278 : Value).ownBlock ∧ some k_ ≠ (v281 : Value).ownBlock ∧ some k_ ≠ (u276000 : Value).ownBlock) (.slice Ao35 x6_3.length co35) x6_3) ∧ Aside0 (Kd.R (Kd.int .i64) 3 w' w.heap.size (fun k_ => some k_ ≠ ((.slice Ao35 x6_3.length co35) : Value).ownBlock ∧ some k_ ≠ (v281 : Value).ownBlock ∧ some k_ ≠ (u276000 : Value).ownBlock) v278 t276) ∧ Aside0 (Kd.R (Kd.int .i64) 3 w' w.heap.size (fun k_ => some k_ ≠ ((.slice Ao35 x6_3.length co35) : Value).ownBlock ∧ some k_ ≠ (v278 : Value).ownBlock ∧ some k_ ≠ (u276000 : Value).ownBlock) v281 x14_4) ∧ Aside0 (Kd.R (Kd.int .i64) 3 w' w.heap.size (fun k_ => some k_ ≠ ((.slice Ao35 x6_3.length co35) : Value).ownBlock ∧ some k_ ≠ (v278 : Value).ownBlock ∧ some k_ ≠ (v281 : Value).ownBlock) u276000 x276000_3) ∧ Aside0 (Kd.R (Kd.int .i64) 23 w' w.heap.size (fun _ => True) u276001 x276001_3) ∧ Aside0 (w'.heap[gb258]? = some (.cells #[(.slice A0_0 l0_0.length c0_0), (.slice A0_1 l0_1.length c0_1)] 27 (0, 0))) ∧ Aside0 (w'.heap[gb259]? = some (.cells #[(.slice none 0 0), (.slice none 0 0)] 27 (0, 0))) ∧ Aside0 (w'.heap[gb275]? = some (.cells #[u276000, u276001] 27 (0, 0))) ∧ Aside0 (Below w.heap.size w w'))
       case atStart => exact ⟨(y280), (0), z1_, H', ⟨Nat.le_refl _⟩, ⟨by (try simp only [hl6_3]); (with_reducible repeat (first | apply Kd.R_alloc | apply Kd.R_drewN | apply Kd.R_drew)); exact Kd.R_mono HO_6.out (fun _ hk => ⟨hk.1.2, ⟨hk.2, hk.1.1⟩⟩)⟩, ⟨by (try simp only [hl6_3]); (with_reducible repeat (first | apply Kd.R_alloc | apply Kd.R_drewN | apply Kd.R_drew)); exact Kd.R_mono HO279.out (fun _ hk => ⟨hk.1.1.2, ⟨hk.2, hk.1.2⟩⟩)⟩, ⟨by (try simp only [hl6_3]); (with_reducible repeat (first | apply Kd.R_alloc | apply Kd.R_drewN | apply Kd.R_drew)); exact Kd.R_mono HO282.out (fun _ hk => ⟨hk.1.1.2, ⟨hk.2, hk.1.2⟩⟩)⟩, ⟨by (try simp only [hl6_3]); (with_reducible repeat (first | apply Kd.R_alloc | apply Kd.R_drewN | apply Kd.R_drew)); exact Kd.R_mono HO_276000.out (fun _ hk => ⟨hk.1.1, ⟨hk.1.2, hk.2⟩⟩)⟩, ⟨by (try simp only [hl6_3]); (with_reducible repeat (first | apply Kd.R_alloc | apply Kd.R_drewN | apply Kd.R_drew)); exact HO_276001.out⟩, ⟨by (try simp only [hl6_3]); (with_reducible repeat (first | refine blk_drewN ?_ _ | refine blk_drew ?_ | refine blk_alloc ?_ _)); exact BK258.out⟩, ⟨by (try simp only [hl6_3]); (with_reducible repeat (first | refine blk_drewN ?_ _ | refine blk_drew ?_ | refine blk_alloc ?_ _)); exact BK259.out⟩, ⟨by (try simp only [hl6_3]); (with_reducible repeat (first | refine blk_drewN ?_ _ | refine blk_drew ?_ | refine blk_alloc ?_ _)); exact BK275.out⟩, ⟨zw3_ HB GE258 GE259 GE275⟩⟩
       case round =>
        clear H'
        try clear c1
        try clear c2
        try clear p2
        try clear q2
        try clear hx2
        try clear hf2
        try clear c3
        try clear c4
        try clear c5
        try clear p6
        try clear c7
        try clear c9
        try clear c12
        try clear c13
        try clear c16
        try clear c17
        try clear c19
        try clear c19b0
        try clear c19b1
        try clear c20
        try clear c20b0
        try clear c20b1
        try clear c23
        try clear c23b0
        try clear c24
        try clear c24b0
        try clear c25
        try clear c25b0
        try clear c26
        try clear c26b0
        try clear p26
        try clear q26
        try clear hx26
        try clear c27
        try clear c27b0
        try clear c28
        try clear c28b0
        try clear p29
        try clear q29
        try clear hx29
        try clear hf29
        try clear c30
        try clear c39
        try clear c40
        try clear c43
        try clear c43b0
        try clear c45
        try clear c45b0
        try clear c45b1
        try clear c46
        try clear c46b0
        try clear c46b1
        try clear hcz10_0
        try clear hcz10_1
        try clear hcz12_0
        try clear hcz12_1
        try clear hcz14_0
        try clear hcz14_1
        try clear hcz18_0
        try clear hcz18_1
        try clear hcz31_0
        try clear hcz31_1
        try clear hcz41_0
        try clear hcz41_1
        try clear hfz10_0
        try clear hfz10_1
        try clear hfz12_0
        try clear hfz12_1
        try clear hfz14_0
        try clear hfz14_1
        try clear hfz18_0
        try clear hfz18_1
        try clear hfz31_0
        try clear hfz31_1
        try clear hfz41_0
        try clear hfz41_1
        try clear hx265_0
        try clear hx266_0
        try clear hx29_0
        try clear p2
        try clear p26
        try clear p265
        try clear p266
        try clear p29
        try clear p6
        try clear q2
        try clear q26
        try clear q265
        try clear q266
        try clear q29
        obtain ⟨x14_4, x72_4, rfl, HA, HK4, HO_6, HO_12, HO_14, HO_276000, HO_276001, BK258, BK259, BK275, HB⟩ := hrel
        cases gk with
        | zero => exact absurd HA.out (by simp [tens_Turn.l2])
        | succ k4 =>
         have H := HA.out
         clear HA
         simp only [tens_Turn.l2] at H
         by_cases c50 : x72_4 < (l1.length : Int)
         ·rw [if_pos c50] at H
          have c50b0 : decide (x72_4 < (l1.length : Int)) = true := decide_eq_true c50
          clear c50
          by_cases c51 : 0 ≤ x72_4
          rotate_left
          ·rw [if_neg c51] at H
           exact absurd H (by simp)
          rw [if_pos c51] at H
          have c51b0 : decide (0 ≤ x72_4) = true := decide_eq_true c51
          clear c51
          by_cases c52 : x72_4 < (l1.length : Int)
          rotate_left
          ·rw [if_neg c52] at H
           exact absurd H (by simp)
          rw [if_pos c52] at H
          have c52b0 : decide (x72_4 < (l1.length : Int)) = true := decide_eq_true c52
          clear c52
          by_cases c53 : x72_4 < (t276.length : Int)
          rotate_left
          ·rw [if_neg c53] at H
           exact absurd H (by simp)
          rw [if_pos c53] at H
          have c53b0 : decide (x72_4 < (t276.length : Int)) = true := decide_eq_true c53
          clear c53
          by_cases c54 : 0 ≤ (rd l1 x72_4)
          rotate_left
          ·rw [if_neg c54] at H
           exact absurd H (by simp)
          rw [if_pos c54] at H
          have c54b0 : decide (0 ≤ (rd l1 x72_4)) = true := decide_eq_true c54
          clear c54
          by_cases c55 : (rd l1 x72_4) < (x14_4.length : Int)
          rotate_left
          ·rw [if_neg c55] at H
           exact absurd H (by simp)
          rw [if_pos c55] at H
          have c55b0 : decide ((rd l1 x72_4) < (x14_4.length : Int)) = true := decide_eq_true c55
          clear c55
          obtain ⟨y285, hy285⟩ : ∃ y_ : List Int, y_ = (x14_4.set ((rd l1 x72_4) : Int).toNat (rd t276 x72_4)) := ⟨_, rfl⟩
          replace H : (tens_Turn.l2 k4 l1 x6_3 x58_3 t276 y285 (t271.length : Int) x58_3 l1 (l1.length : Int) (wrap64 (x72_4 + 1)) l0_0 l0_1 x276000_3 x276001_3) = some (r1, r2, r3) := by first | (rw [hy285]; with_reducible exact H) | (have H2_ := (Option.bind_some _ _).symm.trans H; rw [hy285]; with_reducible exact H2_) | (have H2_ := (Option.bind_some _ _).symm.trans H; with_reducible exact H2_) | with_reducible exact H | (rw [hy285]; exact H) | exact H
          have Ny285 := Aside0.mk hy285
          clear hy285
          have H' := Aside0.mk H
          clear H
          have p283 : 0 ≤ (x72_4 : Int) := of_decide_eq_true (by first | (with_reducible assumption) | assumption)
          have q283 : x72_4 < (l1.length : Int) := of_decide_eq_true (by first | (with_reducible assumption) | assumption)
          obtain ⟨ad283, e283, hx283_0⟩ := Kd.at_int HR1.out x72_4 p283 q283
          cases e283
          replace hx283_0 := (HB.out.cell (World.block_lt_of_cell? w _ hx283_0)).trans hx283_0
          replace p283 := eq_true p283
          replace q283 := eq_true q283
          obtain ⟨Ao57, co57, eo57⟩ := Kd.R_slice HO_12.out
          subst eo57
          have p284 : 0 ≤ (x72_4 : Int) := of_decide_eq_true (by first | (with_reducible assumption) | assumption)
          have q284 : x72_4 < (t276.length : Int) := of_decide_eq_true (by first | (with_reducible assumption) | assumption)
          obtain ⟨ad284, e284, hx284_0⟩ := Kd.at_int (Kd.R_reads' HO_12.out).2.2 x72_4 p284 q284
          cases e284
          replace p284 := eq_true p284
          replace q284 := eq_true q284
          have p56 : 0 ≤ ((rd l1 x72_4) : Int) := of_decide_eq_true (by first | (with_reducible assumption) | assumption)
          have q56 : ((rd l1 x72_4) : Int) < ((x14_4.length : Int) : Int) := of_decide_eq_true (by first | (with_reducible assumption) | assumption)
          obtain ⟨go56, co56, eo56, gb56, gl56, cl56, HG56⟩ := Kd.R_form HO_14.out (by omega)
          (first | cases eo56 | (injection eo56 with ea_ en_ ec_; (first | subst ea_ | (injection ea_ with ea_; subst ea_)); subst ec_; clear en_))
          have GB56 := Aside0.mk gb56
          have GG56 := Aside0.mk HG56
          clear gb56 gl56 HG56
          obtain ⟨hx56_0, hf56_0⟩ := Kd.R_celln 0 HO_14.out ((rd l1 x72_4) : Int) p56 q56
          replace p56 := eq_true p56
          replace q56 := eq_true q56
          have HP58 := Kd.R_putg HO_14.out ((rd l1 x72_4) : Int) (rd t276 x72_4)
          go_wp2_with (first | ((with_reducible refine gate_store (t := 3) (p := 83) rfl ?_); refine store_event (t := 3) (p := 83) (v := ?vo_w59) (w1 := (wr.setCell ⟨go56, ((rd l1 x72_4) : Int).toNat, none⟩ (.int .i64 (rd t276 x72_4)))) ?hg ?ho ?hn ?hr ?_; (case ho => rfl); (case hg => rfl); (case hn => rfl); (case hr => first | (go_simp; done) | (go_simp; rfl)); intro w59 hw; have hg : wr.grownBy w59 (some go56) := (by rw [hw]; exact HP58.2); have hp_ : Kd.R (Kd.int .i64) 3 w59 w.heap.size (fun k_ => some k_ ≠ (.slice Ao35 x6_3.length co35 : Value).ownBlock ∧ some k_ ≠ (.slice (some ad284) t276.length co57 : Value).ownBlock ∧ some k_ ≠ (u276000 : Value).ownBlock) (.slice (some ⟨go56, 0, none⟩) x14_4.length co56) y285 := (by rw [hw, Ny285.out]; exact HP58.1); clear HP58; replace HO_6 := Aside0.mk (Kd.R_after (v := (.slice (some ⟨go56, 0, none⟩) x14_4.length co56)) (v1 := (.slice (some ⟨go56, 0, none⟩) x14_4.length co56)) (ok := (fun k_ => some k_ ≠ (.slice (some ad284) t276.length co57 : Value).ownBlock ∧ some k_ ≠ (u276000 : Value).ownBlock)) (zr_ (Kd.R_mono HO_6.out (fun _ hk => ⟨⟨hk.1, hk.2.2⟩, hk.2.1⟩))) hg (.inl rfl)); replace HO_12 := Aside0.mk (Kd.R_after (v := (.slice (some ⟨go56, 0, none⟩) x14_4.length co56)) (v1 := (.slice (some ⟨go56, 0, none⟩) x14_4.length co56)) (ok := (fun k_ => some k_ ≠ (.slice Ao35 x6_3.length co35 : Value).ownBlock ∧ some k_ ≠ (u276000 : Value).ownBlock)) (zr_ (Kd.R_mono HO_12.out (fun _ hk => ⟨⟨hk.1, hk.2.2⟩, hk.2.1⟩))) hg (.inl rfl)); replace HO_276000 := Aside0.mk (Kd.R_after (v := (.slice (some ⟨go56, 0, none⟩) x14_4.length co56)) (v1 := (.slice (some ⟨go56, 0, none⟩) x14_4.length co56)) (ok := (fun k_ => some k_ ≠ (.slice Ao35 x6_3.length co35 : Value).ownBlock ∧ some k_ ≠ (.slice (some ad284) t276.length co57 : Value).ownBlock)) (zr_ (Kd.R_mono HO_276000.out (fun _ hk => ⟨⟨hk.1, hk.2.1⟩, hk.2.2⟩))) hg (.inl rfl)); replace HO_276001 := Aside0.mk (Kd.R_over' (v := (.slice (some ⟨go56, 0, none⟩) x14_4.length co56)) (zr_ HO_276001.out) (Kd.R_typed HO_14.out) (by decide) hg); replace BK258 := Aside0.mk (zh_ BK258 hg (Kd.R_ne HO_14.out BK258.out (by decide))); replace BK259 := Aside0.mk (zh_ BK259 hg (Kd.R_ne HO_14.out BK259.out (by decide))); replace BK275 := Aside0.mk (zh_ BK275 hg (Kd.R_ne HO_14.out BK275.out (by decide))); replace HO_14 := Aside0.mk (hp_); replace HB := Aside0.mk ((by rw [hw]; exact below_set (HB.out) GB56.out : Below w.heap.size w w59)); clear hg hw hp_))
          go_roundg k4
          case measure => have := HJ2.out; have := HK2.out; have := HK3.out; have := HK4.out; omega
          case rel => exact ⟨(y285), (wrap64 (x72_4 + 1)), z1_, H', ⟨by have := HJ2.out; have := HK2.out; have := HK3.out; have := HK4.out; omega⟩, ⟨by (try simp only [hl6_3]); (with_reducible repeat (first | apply Kd.R_alloc | apply Kd.R_drewN | apply Kd.R_drew)); exact Kd.R_mono HO_6.out (fun _ hk => ⟨hk.1.1, ⟨hk.2, hk.1.2⟩⟩)⟩, ⟨by (try simp only [hl6_3]); (with_reducible repeat (first | apply Kd.R_alloc | apply Kd.R_drewN | apply Kd.R_drew)); exact Kd.R_mono HO_12.out (fun _ hk => ⟨hk.1.1, ⟨hk.2, hk.1.2⟩⟩)⟩, ⟨by (try simp only [hl6_3]); (with_reducible repeat (first | apply Kd.R_alloc | apply Kd.R_drewN | apply Kd.R_drew)); exact HO_14.out⟩, ⟨by (try simp only [hl6_3]); (with_reducible repeat (first | apply Kd.R_alloc | apply Kd.R_drewN | apply Kd.R_drew)); exact Kd.R_mono HO_276000.out (fun _ hk => ⟨hk.1.1, ⟨hk.1.2, hk.2⟩⟩)⟩, ⟨by (try simp only [hl6_3]); (with_reducible repeat (first | apply Kd.R_alloc | apply Kd.R_drewN | apply Kd.R_drew)); exact HO_276001.out⟩, ⟨by (try simp only [hl6_3]); (with_reducible repeat (first | refine blk_drewN ?_ _ | refine blk_drew ?_ | refine blk_alloc ?_ _)); exact BK258.out⟩, ⟨by (try simp only [hl6_3]); (with_reducible repeat (first | refine blk_drewN ?_ _ | refine blk_drew ?_ | refine blk_alloc ?_ _)); exact BK259.out⟩, ⟨by (try simp only [hl6_3]); (with_reducible repeat (first | refine blk_drewN ?_ _ | refine blk_drew ?_ | refine blk_alloc ?_ _)); exact BK275.out⟩, ⟨zw3_ HB GE258 GE259 GE275⟩⟩
         rw [if_neg c50] at H
         have c50b0 : decide (x72_4 < (l1.length : Int)) = false := decide_eq_false c50
         clear c50
         replace H := Option.bind_eq_some_iff.mp H
         obtain ⟨⟨t286, t287⟩, A600, H⟩ := H
         (try dsimp only at H)
         have A60 := Aside0.mk A600
         clear A600
         by_cases c61 : 0 ≤ t286
         rotate_left
         ·rw [if_neg c61] at H
          exact absurd H (by simp)
         rw [if_pos c61] at H
         have c61b0 : decide (0 ≤ t286) = true := decide_eq_true c61
         clear c61
         by_cases c62 : t286 < (l0_1.length : Int)
         rotate_left
         ·rw [if_neg c62] at H
          exact absurd H (by simp)
         rw [if_pos c62] at H
         have c62b0 : decide (t286 < (l0_1.length : Int)) = true := decide_eq_true c62
         clear c62
         by_cases c63 : 0 ≤ x58_3
         rotate_left
         ·rw [if_neg c63] at H
          exact absurd H (by simp)
         rw [if_pos c63] at H
         have c63b0 : decide (0 ≤ x58_3) = true := decide_eq_true c63
         clear c63
         by_cases c64 : x58_3 < (x276001_3.length : Int)
         rotate_left
         ·rw [if_neg c64] at H
          exact absurd H (by simp)
         rw [if_pos c64] at H
         have c64b0 : decide (x58_3 < (x276001_3.length : Int)) = true := decide_eq_true c64
         clear c64
         obtain ⟨y289, hy289⟩ : ∃ y_ : List Int, y_ = (x276001_3.set (x58_3 : Int).toNat (rd l0_1 t286)) := ⟨_, rfl⟩
         replace H : (tens_Turn.l1 k4 l1 x6_3 (t271.length : Int) (wrap64 (x58_3 + 1)) l0_0 l0_1 x276000_3 y289) = some (r1, r2, r3) := by first | (rw [hy289]; with_reducible exact H) | (have H2_ := (Option.bind_some _ _).symm.trans H; rw [hy289]; with_reducible exact H2_) | (have H2_ := (Option.bind_some _ _).symm.trans H; with_reducible exact H2_) | with_reducible exact H | (rw [hy289]; exact H) | exact H
         have Ny289 := Aside0.mk hy289
         clear hy289
         have H' := Aside0.mk H
         clear H
         have hnb66 := NB258_259.out
         have hnc66 := NB259_258.out
         have hnb67 := NB258_275.out
         have hnc67 := NB275_258.out
         have hcz68_0 := zx_ (v := .slice A0_0 l0_0.length c0_0) BK258 0
         have hcz68_1 := zx_ (v := .slice A0_1 l0_1.length c0_1) BK258 1
         have hfz68_0 := blk_frozen BK258.out 0
         have hfz68_1 := blk_frozen BK258.out 1
         obtain ⟨Ao69, co69, eo69⟩ := Kd.R_slice HO_14.out
         subst eo69
         try go_wp2_with (first | ((with_reducible refine gate_callee (f := 53) rfl ?_); refine zg_ (some 89) Try.func53 #[.slice A0_0 l0_0.length c0_0, .slice Ao69 x14_4.length co69] (h := ?_); (with_reducible refine (shape_At.calls k4 _ _ l0_0 _ _ x14_4 t286 t287 _ ?side1 ?side2 ?side3 ?side4 A60.out).mono ?_); (case side1 => exact zk_ (Kd.C_below HR0_0.out HB.out)); (case side2 => exact HC0_0.out); (case side3 => exact zk_ ((Kd.R_reads' HO_14.out).2.2)); (case side4 => exact (Kd.R_reads' HO_14.out).2.1); rintro e w' ⟨rfl, ⟨nd, rfl⟩⟩; refine ⟨_, rfl, ?_⟩; (try (rw [drewN_self wr]; generalize hq_ : World.drewN wr _ = wr; have n0_ : Aside0 (Kd.R (Kd.int .i64) 3 wr w.heap.size (fun k_ => some k_ ≠ (.slice Ao69 x14_4.length co69 : Value).ownBlock ∧ some k_ ≠ (u276000 : Value).ownBlock ∧ some k_ ≠ (.slice Ao35 x6_3.length co35 : Value).ownBlock) v278 t276) := ⟨by rw [← hq_]; exact (zr_ (Kd.R_mono HO_12.out (fun _ hk => ⟨hk.2.1, ⟨hk.2.2, hk.1⟩⟩)))⟩; have n1_ : Aside0 (Kd.R (Kd.int .i64) 3 wr w.heap.size (fun k_ => some k_ ≠ (v278 : Value).ownBlock ∧ some k_ ≠ (u276000 : Value).ownBlock ∧ some k_ ≠ (.slice Ao35 x6_3.length co35 : Value).ownBlock) (.slice Ao69 x14_4.length co69) x14_4) := ⟨by rw [← hq_]; exact (zr_ (Kd.R_mono HO_14.out (fun _ hk => ⟨hk.2.1, ⟨hk.2.2, hk.1⟩⟩)))⟩; have n2_ : Aside0 (Kd.R (Kd.int .i64) 3 wr w.heap.size (fun k_ => some k_ ≠ (v278 : Value).ownBlock ∧ some k_ ≠ (.slice Ao69 x14_4.length co69 : Value).ownBlock ∧ some k_ ≠ (.slice Ao35 x6_3.length co35 : Value).ownBlock) u276000 x276000_3) := ⟨by rw [← hq_]; exact (zr_ (Kd.R_mono HO_276000.out (fun _ hk => ⟨hk.2.1, ⟨hk.2.2, hk.1⟩⟩)))⟩; have n3_ : Aside0 (Kd.R (Kd.int .i64) 23 wr w.heap.size (fun _ => True) u276001 x276001_3) := ⟨by rw [← hq_]; exact (zr_ HO_276001.out)⟩; have n4_ : Aside0 (Kd.R (Kd.int .i64) 3 wr w.heap.size (fun k_ => some k_ ≠ (v278 : Value).ownBlock ∧ some k_ ≠ (.slice Ao69 x14_4.length co69 : Value).ownBlock ∧ some k_ ≠ (u276000 : Value).ownBlock) (.slice Ao35 x6_3.length co35) x6_3) := ⟨by rw [← hq_]; exact (zr_ HO_6.out)⟩; have n5_ : Aside0 (wr.heap[gb258]? = some (.cells #[.slice A0_0 l0_0.length c0_0, .slice A0_1 l0_1.length c0_1] 27 (0, 0))) := ⟨by rw [← hq_]; exact (zb_ BK258)⟩; have n6_ : Aside0 (wr.heap[gb259]? = some (.cells #[.slice none 0 0, .slice none 0 0] 27 (0, 0))) := ⟨by rw [← hq_]; exact (zb_ BK259)⟩; have n7_ : Aside0 (wr.heap[gb275]? = some (.cells #[u276000, u276001] 27 (0, 0))) := ⟨by rw [← hq_]; exact (zb_ BK275)⟩; have n8_ : Aside0 (Below w.heap.size w wr) := ⟨by rw [← hq_]; exact (zw3_ HB GE258 GE259 GE275)⟩; clear HO_12 HO_14 HO_276000 HO_276001 HO_6 BK258 BK259 BK275 HB hq_; have HO_12 := n0_; have HO_14 := n1_; have HO_276000 := n2_; have HO_276001 := n3_; have HO_6 := n4_; have BK258 := n5_; have BK259 := n6_; have BK275 := n7_; have HB := n8_; clear n0_ n1_ n2_ n3_ n4_ n5_ n6_ n7_ n8_; (try (have hcz31_0 := zx_ (v := .slice A0_0 l0_0.length c0_0) BK258 0)); (try (have hcz31_1 := zx_ (v := .slice A0_1 l0_1.length c0_1) BK258 1)); (try (have hfz31_0 := blk_frozen BK258.out 0)); (try (have hfz31_1 := blk_frozen BK258.out 1)); (try (have hcz68_0 := zx_ (v := .slice A0_0 l0_0.length c0_0) BK258 0)); (try (have hcz68_1 := zx_ (v := .slice A0_1 l0_1.length c0_1) BK258 1)); (try (have hfz68_0 := blk_frozen BK258.out 0)); (try (have hfz68_1 := blk_frozen BK258.out 1))))))
         replace HO_6 := Aside0.mk (Kd.R_drew HO_6.out)
         replace HO_12 := Aside0.mk (Kd.R_drew HO_12.out)
         replace HO_14 := Aside0.mk (Kd.R_drew HO_14.out)
         replace HO_276000 := Aside0.mk (Kd.R_drew HO_276000.out)
         replace HO_276001 := Aside0.mk (Kd.R_drew HO_276001.out)
         replace BK258 := Aside0.mk (blk_drew BK258.out)
         replace BK259 := Aside0.mk (blk_drew BK259.out)
         replace BK275 := Aside0.mk (blk_drew BK275.out)
         replace HB := Aside0.mk (below_drew1 HB.out)
         have p288 : 0 ≤ (t286 : Int) := of_decide_eq_true (by first | (with_reducible assumption) | assumption)
         have q288 : t286 < (l0_1.length : Int) := of_decide_eq_true (by first | (with_reducible assumption) | assumption)
         obtain ⟨ad288, e288, hx288_0⟩ := Kd.at_int HR0_1.out t286 p288 q288
         have hw288_0 := hx288_0
         cases e288
         replace hx288_0 := (HB.out.cell (World.block_lt_of_cell? w _ hx288_0)).trans hx288_0
         replace p288 := eq_true p288
         replace q288 := eq_true q288
         have p65 : 0 ≤ (x58_3 : Int) := of_decide_eq_true (by first | (with_reducible assumption) | assumption)
         have q65 : (x58_3 : Int) < ((x276001_3.length : Int) : Int) := of_decide_eq_true (by first | (with_reducible assumption) | assumption)
         obtain ⟨go65, co65, eo65, gb65, gl65, cl65, HG65⟩ := Kd.R_form HO_276001.out (by omega)
         (first | cases eo65 | (injection eo65 with ea_ en_ ec_; (first | subst ea_ | (injection ea_ with ea_; subst ea_)); subst ec_; clear en_))
         have GB65 := Aside0.mk gb65
         have GG65 := Aside0.mk HG65
         clear gb65 gl65 HG65
         obtain ⟨hx65_0, hf65_0⟩ := Kd.R_celln 0 HO_276001.out (x58_3 : Int) p65 q65
         replace p65 := eq_true p65
         replace q65 := eq_true q65
         have HP71 := Kd.R_putn HO_276001.out (x58_3 : Int) (rd l0_1 t286)
         rw [← Ny289.out] at HP71
         have HQ71 := Aside0.mk HP71
         clear HP71
         refine start_ (n := 10) (S := fun w' => w'.cell? ⟨gb275, 0, none⟩ = some (u276000) ∧ w'.cell? ⟨gb275, 1, none⟩ = some (.slice (some ⟨go65, 0, none⟩) x276001_3.length co65) ∧ w'.cell? ⟨gb258, 0, none⟩ = some (.slice A0_0 l0_0.length c0_0) ∧ w'.cell? ⟨gb258, 1, none⟩ = some (.slice (some ad288) l0_1.length c0_1) ∧ w'.cell? (ad288.add (t286).toNat) = some (.int .i64 (rd l0_1 t286))) (ds := [9]) #[false, false, false, false, false, false, false, false, false, false] (by kernel_rfl) rfl rfl ⟨(blk_cell BK275.out 0).trans rfl, (blk_cell BK275.out 1).trans rfl, (blk_cell BK258.out 0).trans rfl, (blk_cell BK258.out 1).trans rfl, ((HB.out.cell (World.block_lt_of_cell? w _ hw288_0)).trans hw288_0)⟩ (fun hHeld => ?_); refine with_tabW tens_Turn.tab21 tens_Turn.bits21 (fun HT_ HW_ => ?_)
         generalize wr.drew = w70 at HO_6 HO_12 HO_14 HO_276000 HO_276001 BK258 BK259 BK275 HB GG65 HQ71 hf65_0 hx288_0 hx65_0 hHeld ⊢
         refine yp_ ?_ 0 92
         refine yp_ ?_ 2 94
         refine yp_ ?_ 3 95
         refine yp_ ?_ 5 97
         refine yt5_ ?_ 1 93
         refine yt5_ ?_ 4 96
         refine yp_ ?_ 6 98
         refine yt5_ ?_ 7 99
         refine yp_ ?_ 8 100
         refine yl_ 9 none (fun K hK => ?_)
         refine skip_ (w1 := ?_) (by rfl) rfl ?_ ?_
         rotate_left
         ·go_simp
          rfl
         refine hK.out _ _ ?_
         clear hK K
         refine done_ (done_of HT_.out (by kernel_rfl)) ?_
         try go_wp2
         (try simp only [← hl6_3])
         go_roundg k4
         case measure => have := HJ2.out; have := HK2.out; have := HK3.out; have := HK4.out; omega
         case rel => exact ⟨(x6_3), (wrap64 (x58_3 + 1)), (x276000_3), (y289), (u276000), (.slice (some ⟨go65, 0, none⟩) x276001_3.length co65), z1_, H', ⟨by have := HJ2.out; have := HK2.out; have := HK3.out; have := HK4.out; omega⟩, ⟨by (try simp only [hl6_3]); (with_reducible repeat (first | apply Kd.R_alloc | apply Kd.R_drewN | apply Kd.R_drew)); exact Kd.R_mono (Kd.R_far (p := ⟨go65, (x58_3 : Int).toNat, none⟩) (Kd.R_types HO_6.out GG65.out (by decide)) (fun _ hk => hk.2) (.int .i64 (rd l0_1 t286))) (fun _ hk => hk.1.2.2)⟩, ⟨by (try simp only [hl6_3]); (with_reducible repeat (first | apply Kd.R_alloc | apply Kd.R_drewN | apply Kd.R_drew)); exact Kd.R_mono (Kd.R_far (p := ⟨go65, (x58_3 : Int).toNat, none⟩) (Kd.R_types HO_276000.out GG65.out (by decide)) (fun _ hk => hk.2) (.int .i64 (rd l0_1 t286))) (fun _ hk => by first | exact hk.1.1 | exact hk.1.2.2 | exact hk.1.2.1)⟩, ⟨by (try simp only [hl6_3]); (with_reducible repeat (first | apply Kd.R_alloc | apply Kd.R_drewN | apply Kd.R_drew)); exact HQ71.out⟩, ⟨by (try simp only [hl6_3]); (with_reducible repeat (first | refine blk_drewN ?_ _ | refine blk_drew ?_ | refine blk_alloc ?_ _)); refine blk_far ?_ (by have h_ := Kd.R_ne HO_276001.out BK258.out (by decide); intro e_; exact h_ (by rw [e_]; rfl)) _; (with_reducible repeat (first | refine blk_drewN ?_ _ | refine blk_drew ?_ | refine blk_alloc ?_ _)); exact BK258.out⟩, ⟨by (try simp only [hl6_3]); (with_reducible repeat (first | refine blk_drewN ?_ _ | refine blk_drew ?_ | refine blk_alloc ?_ _)); refine blk_far ?_ (by have h_ := Kd.R_ne HO_276001.out BK259.out (by decide); intro e_; exact h_ (by rw [e_]; rfl)) _; (with_reducible repeat (first | refine blk_drewN ?_ _ | refine blk_drew ?_ | refine blk_alloc ?_ _)); exact BK259.out⟩, ⟨by (try simp only [hl6_3]); (with_reducible repeat (first | refine blk_drewN ?_ _ | refine blk_drew ?_ | refine blk_alloc ?_ _)); refine blk_far ?_ (by have h_ := Kd.R_ne HO_276001.out BK275.out (by decide); intro e_; exact h_ (by rw [e_]; rfl)) _; (with_reducible repeat (first | refine blk_drewN ?_ _ | refine blk_drew ?_ | refine blk_alloc ?_ _)); exact BK275.out⟩, ⟨by repeat (first | (with_reducible first | exact HB.out | apply below_alloc | apply pw_below_drewN | apply below_drew1 | refine below_set ?_ GB65.out | refine below_set ?_ GE258.out | refine below_set ?_ GE259.out | refine below_set ?_ GE275.out) | exact HB.out)⟩⟩

end Go.Proofs.Ytbdhabpplidgfaa.PTensTurns
