/- The functions that the law TensTurns reaches, as Lean functions, and that each call of the Go function does what its Lean function says, wherever that one answers. Written by a program of mine over the print of the kit; Lean checks it. -/
import Derived.Test.YtbdhabpplidgfaaPTensTurnsx0
import Derived.Test.YtbdhabpplidgfaaPTensTurnsx5
import Derived.Test.YtbdhabpplidgfaaPTensTurnsx12
import Derived.Test.YtbdhabpplidgfaaPTensTurnsx15
import Derived.Test.YtbdhabpplidgfaaPTensTurnsx17
namespace Go.Proofs.Ytbdhabpplidgfaa.PTensTurns
open Go.RowKit Go.Proofs.YtbdhabpplidgfaaW.PrintWords Go.Proofs.YtbdhabpplidgfaaW.PrintLast Go.Proofs.YtbdhabpplidgfaaW.PrintMore
attribute [local go_sem] max2_int min2_int max_two min_two max_three min_three max_four min_four   -- for this text's walks alone
set_option linter.unusedVariables false
set_option linter.unusedSimpArgs false

/-! ### carouselref5_From: function 47 -/
mutual
def carouselref5_From.j0 : Nat → List Int → List Int → Int → Bool → Option (Int × Bool)
 | 0, _, _, _, _ => none
 | k + 1, x0, x1, x2, x28 => if x28 = true then (some (0, false)) else ((carouselref5_Place.f k x1 x2).bind fun bt444 => (if bt444.2 = true then (carouselref5_From.l0 k x0 bt444.1 0 0) else (some (0, false))))
def carouselref5_From.l0 : Nat → List Int → List Int → Int → Int → Option (Int × Bool)
 | 0, _, _, _, _ => none
 | k + 1, x0, x10, x12, x13 => if x13 < (x0.length : Int) then (if 0 ≤ (wrap64 ((wrap64 ((x10.length : Int) - (x0.length : Int))) + x13)) then (if (wrap64 ((wrap64 ((x10.length : Int) - (x0.length : Int))) + x13)) < (x10.length : Int) then (if 0 ≤ x13 then (if (rd x0 x13) = 1 then (carouselref5_From.l0 k x0 x10 (wrap64 ((wrap64 (x12 * (rd x0 x13))) + 0)) (wrap64 (x13 + 1))) else (carouselref5_From.l0 k x0 x10 (wrap64 ((wrap64 (x12 * (rd x0 x13))) + (rd x10 (wrap64 ((wrap64 ((x10.length : Int) - (x0.length : Int))) + x13))))) (wrap64 (x13 + 1)))) else (none)) else (none)) else (none)) else (some (x12, true))
end
def carouselref5_From.f (k : Nat) (l0 : List Int) (l1 : List Int) (a2 : Int) : Option (Int × Bool) := (carouselref5_Join.f k l0 l1).bind fun bt439 => (if bt439.2 = 0 then ((carouselref5_Same.f k bt439.1 l1).bind fun t443 => (carouselref5_From.j0 k l0 l1 a2 (!t443))) else (carouselref5_From.j0 k l0 l1 a2 true))
theorem carouselref5_From.mono_l : ∀ k, (∀ y0 y1 y2 y3, LeO (carouselref5_From.j0 k y0 y1 y2 y3) (carouselref5_From.j0 (k + 1) y0 y1 y2 y3)) ∧ (∀ y0 y1 y2 y3, LeO (carouselref5_From.l0 k y0 y1 y2 y3) (carouselref5_From.l0 (k + 1) y0 y1 y2 y3))
 | 0 => ⟨fun _ _ _ _ r h => by simp [carouselref5_From.j0] at h, fun _ _ _ _ r h => by simp [carouselref5_From.l0] at h⟩
 | k + 1 => by
  obtain ⟨ih0, ih1⟩ := carouselref5_From.mono_l k
  refine ⟨?_, ?_⟩
  ·intro y0 y1 y2 y3
   unfold carouselref5_From.j0
   repeat' first
   | (with_reducible exact ih0 _ _ _ _)
   | (with_reducible exact ih1 _ _ _ _)
   | (with_reducible exact carouselref5_Place.mono _ _ _)
   | (with_reducible exact LeO.refl _)
   | (with_reducible exact LeO.none _)
   | (with_reducible refine LeO.ite ?_ ?_)
   | (with_reducible refine LeO.bind ?_ (fun _ => ?_))
   | exact ih0 _ _ _ _
   | exact ih1 _ _ _ _
   | exact carouselref5_Place.mono _ _ _
   | exact LeO.none _
   | refine LeO.ite ?_ ?_
   | refine LeO.bind ?_ (fun _ => ?_)
  ·intro y0 y1 y2 y3
   unfold carouselref5_From.l0
   repeat' first
   | (with_reducible exact ih0 _ _ _ _)
   | (with_reducible exact ih1 _ _ _ _)
   | (with_reducible exact LeO.refl _)
   | (with_reducible exact LeO.none _)
   | (with_reducible refine LeO.ite ?_ ?_)
   | (with_reducible refine LeO.bind ?_ (fun _ => ?_))
   | exact ih0 _ _ _ _
   | exact ih1 _ _ _ _
   | exact LeO.none _
   | refine LeO.ite ?_ ?_
   | refine LeO.bind ?_ (fun _ => ?_)
theorem carouselref5_From.mono : ∀ a0 a1 a2 k, LeO (carouselref5_From.f k a0 a1 a2) (carouselref5_From.f (k + 1) a0 a1 a2) := by
 intro a0 a1 a2 k
 obtain ⟨ih0, ih1⟩ := carouselref5_From.mono_l k
 unfold carouselref5_From.f
 repeat' first
   | (with_reducible exact ih0 _ _ _ _)
   | (with_reducible exact ih1 _ _ _ _)
   | (with_reducible exact carouselref5_Join.mono _ _ _)
   | (with_reducible exact carouselref5_Same.mono _ _ _)
   | (with_reducible exact LeO.refl _)
   | (with_reducible exact LeO.none _)
   | (with_reducible refine LeO.ite ?_ ?_)
   | (with_reducible refine LeO.bind ?_ (fun _ => ?_))
   | exact ih0 _ _ _ _
   | exact ih1 _ _ _ _
   | exact carouselref5_Join.mono _ _ _
   | exact carouselref5_Same.mono _ _ _
   | exact LeO.none _
   | refine LeO.ite ?_ ?_
   | refine LeO.bind ?_ (fun _ => ?_)
set_option maxHeartbeats 8000000 in
set_option maxRecDepth 100000 in
theorem carouselref5_From.calls (k : Nat) (A0 : Option Addr) (c0 : Nat) (l0 : List Int) (A1 : Option Addr) (c1 : Nat) (l1 : List Int) (a2 : Int) (r1 : Int) (r2 : Bool) (w : World) (hr0 : Kd.C (Kd.int .i64) w A0 l0.length l0) (hc0 : l0.length ≤ c0) (hr1 : Kd.C (Kd.int .i64) w A1 l1.length l1) (hc1 : l1.length ≤ c1) (h : carouselref5_From.f k l0 l1 a2 = some (r1, r2)) :
  Calls Try.prog 47 #[.slice A0 l0.length c0, .slice A1 l1.length c1, .int .i64 a2] w fun e w' => e = .returned (.tuple #[.int .i64 r1, .bool r2]) ∧ Below w.heap.size w w' := by
 have HR0 := Aside0.mk hr0
 have HC0 := Aside0.mk hc0
 clear hr0 hc0
 have HR1 := Aside0.mk hr1
 have HC1 := Aside0.mk hc1
 clear hr1 hc1
 have HB := Aside0.mk (Below.refl w.heap.size w)
 have H : ((carouselref5_Join.f k l0 l1).bind fun bt439 => (if bt439.2 = 0 then ((carouselref5_Same.f k bt439.1 l1).bind fun t443 => (carouselref5_From.j0 k l0 l1 a2 (!t443))) else (carouselref5_From.j0 k l0 l1 a2 true))) = some (r1, r2) := h
 clear h
 replace H := Option.bind_eq_some_iff.mp H
 obtain ⟨⟨t439, t440⟩, A40, H⟩ := H
 (try dsimp only at H)
 have A4 := Aside0.mk A40
 clear A40
 have HC5 := Aside0.mk H
 clear H
 go_enter Try.func47, Try.ntmps47
 go_upto_region 2 with (first | ((with_reducible refine gate_callee (f := 46) rfl ?_); refine zg_ (some 18) Try.func46 #[.slice A0 l0.length c0, .slice A1 l1.length c1] (h := ?_); (with_reducible refine (carouselref5_Join.calls k _ _ l0 _ _ l1 t439 t440 _ ?side1 ?side2 ?side3 ?side4 A4.out).mono ?_); (case side1 => repeat (first | exact HR0.out | (with_reducible refine Kd.C_alloc ?_ _) | (with_reducible refine Kd.C_drewN ?_ _) | (with_reducible refine Kd.C_drew ?_))); (case side2 => exact HC0.out); (case side3 => repeat (first | exact HR1.out | (with_reducible refine Kd.C_alloc ?_ _) | (with_reducible refine Kd.C_drewN ?_ _) | (with_reducible refine Kd.C_drew ?_))); (case side4 => exact HC1.out); rintro e w6 ⟨v441, rfl, ho0, hb⟩; refine ⟨_, rfl, ?_⟩; have HO442 := Aside0.mk (Kd.R_lower ho0 (below_size (zw0_ HB))); replace HB := Aside0.mk (below_step (zw0_ HB) hb); (try clear hb); (try clear ho0)))
 (try simp only [Act.put, List.setIfInBounds_toArray, List.set_cons_zero, List.set_cons_succ])
 go_cut [28] (fun v28 wc => ∃ (kq : Nat) (x28_4 : Bool), v28 = .bool x28_4 ∧ Aside0 (carouselref5_From.j0 kq l0 l1 a2 x28_4 = some (r1, r2)) ∧ Aside0 (kq ≤ k) ∧ Aside0 (Below w.heap.size w wc))
 case first =>
  have H := HC5.out
  clear HC5
  by_cases c7 : t440 = 0
  rotate_left
  ·rw [if_neg c7] at H
   have c7b0 : (t440 == 0) = false := beq_eq_false_iff_ne.mpr c7
   have c7b1 : (t440 != 0) = true := bne_iff_ne.mpr c7
   (first | rw [c7b0] | (simp only [i64_w, i32_w]; rw [c7b0]) | skip)
   have H' := Aside0.mk H
   clear H
   go_wp2
   go_meet
   case rel => exact ⟨_, (true), z1_, H', ⟨by first | omega | exact Nat.le_refl _⟩, ⟨zw0_ HB⟩⟩
  rw [if_pos c7] at H
  have c7b0 : (t440 == 0) = true := beq_iff_eq.mpr c7
  have c7b1 : (t440 != 0) = false := bne_eq_false_iff_eq.mpr c7
  clear c7
  (first | rw [c7b0] | (simp only [i64_w, i32_w]; rw [c7b0]) | skip)
  replace H := Option.bind_eq_some_iff.mp H
  obtain ⟨t443, A80, H⟩ := H
  replace H : (carouselref5_From.j0 k l0 l1 a2 (!t443)) = some (r1, r2) := H
  have A8 := Aside0.mk A80
  clear A80
  have H' := Aside0.mk H
  clear H
  obtain ⟨Ao9, co9, eo9⟩ := Kd.R_slice HO442.out
  subst eo9
  go_wp2_with (first | (go_at_call 37; (with_reducible refine (carouselref5_Same.calls k _ _ t439 _ _ l1 t443 _ ?side1 ?side2 ?side3 ?side4 A8.out).mono ?_); (case side1 => exact zk_ ((Kd.R_reads' HO442.out).2.2)); (case side2 => exact (Kd.R_reads' HO442.out).2.1); (case side3 => exact zk_ (Kd.C_below HR1.out HB.out)); (case side4 => exact HC1.out); rintro e w' ⟨rfl, ⟨nd, rfl⟩⟩))
  go_meet
  case rel => exact ⟨_, (!t443), z1_, H', ⟨by first | omega | exact Nat.le_refl _⟩, ⟨zw0_ HB⟩⟩
 case rest =>
  clear HC5
  try clear c1
  try clear p2
  try clear c4
  try clear c7
  try clear c7b0
  try clear c7b1
  obtain ⟨kq, x28_4, rfl, HA, HJ4, HB⟩ := hcut
  cases kq with
  | zero => exact absurd HA.out (by simp [carouselref5_From.j0])
  | succ kj4 =>
   have H := HA.out
   clear HA
   simp only [carouselref5_From.j0] at H
   by_cases c10 : x28_4 = true
   ·subst c10
    have H1 : (some (0, false)) = some (r1, r2) := by rw [if_pos rfl] at H; exact H
    clear H
    have H := H1
    clear H1
    simp only [Option.some.injEq, Prod.mk.injEq] at H
    obtain ⟨rfl, rfl⟩ := H
    go_wp2
    go_ret2
    exact ⟨z0_, zw0_ HB⟩
   replace c10 := Bool.eq_false_iff.mpr c10
   subst c10
   have H1 := H
   rw [if_neg (show ¬ (false = true) by decide)] at H1
   clear H
   have H := H1
   clear H1
   replace H := Option.bind_eq_some_iff.mp H
   obtain ⟨⟨t444, t445⟩, A110, H⟩ := H
   replace H : (if t445 = true then (carouselref5_From.l0 kj4 l0 t444 0 0) else (some (0, false))) = some (r1, r2) := H
   have A11 := Aside0.mk A110
   clear A110
   by_cases c12 : t445 = true
   rotate_left
   ·replace c12 := Bool.eq_false_iff.mpr c12
    subst c12
    have H1 : (some (0, false)) = some (r1, r2) := by rw [if_neg (show ¬ (false = true) by decide)] at H; exact H
    clear H
    have H := H1
    clear H1
    simp only [Option.some.injEq, Prod.mk.injEq] at H
    obtain ⟨rfl, rfl⟩ := H
    go_wp2_with (first | ((with_reducible refine gate_callee (f := 57) rfl ?_); refine zg_ (some 32) Try.func57 #[.slice A1 l1.length c1, .int .i64 a2] (h := ?_); (with_reducible refine (carouselref5_Place.calls kj4 _ _ l1 a2 t444 false _ ?side1 ?side2 A11.out).mono ?_); (case side1 => exact zk_ (Kd.C_below HR1.out HB.out)); (case side2 => exact HC1.out); rintro e w22 ⟨v446, rfl, ho0, hb⟩; refine ⟨_, rfl, ?_⟩; have HO447 := Aside0.mk (Kd.R_lower ho0 (below_size (zw0_ HB))); replace HB := Aside0.mk (below_step (zw0_ HB) hb); (try clear hb); (try clear ho0)))
    go_ret2
    exact ⟨z0_, zw0_ HB⟩
   subst c12
   have H1 : (carouselref5_From.l0 kj4 l0 t444 0 0) = some (r1, r2) := by rw [if_pos rfl] at H; exact H
   clear H
   have H := H1
   clear H1
   have H' := Aside0.mk H
   clear H
   go_wp2_with (first | ((with_reducible refine gate_callee (f := 57) rfl ?_); refine zg_ (some 32) Try.func57 #[.slice A1 l1.length c1, .int .i64 a2] (h := ?_); (with_reducible refine (carouselref5_Place.calls kj4 _ _ l1 a2 t444 true _ ?side1 ?side2 A11.out).mono ?_); (case side1 => exact zk_ (Kd.C_below HR1.out HB.out)); (case side2 => exact HC1.out); rintro e w13 ⟨v446, rfl, ho0, hb⟩; refine ⟨_, rfl, ?_⟩; have HO447 := Aside0.mk (Kd.R_lower ho0 (below_size (zw0_ HB))); replace HB := Aside0.mk (below_step (zw0_ HB) hb); (try clear hb); (try clear ho0)))
   go_loopg [12, 13] kj4 (fun kq v12 v13 w' => ∃ (x12_2 : Int) (x13_2 : Int), v12 = .int .i64 x12_2 ∧ v13 = .int .i64 x13_2 ∧ Aside0 (carouselref5_From.l0 kq l0 t444 x12_2 x13_2 = some (r1, r2)) ∧ Aside0 (kq ≤ kj4) ∧ Aside0 (Kd.R (Kd.int .i64) 3 w' w.heap.size (fun _ => True) v446 t444) ∧ Aside0 (Below w.heap.size w w'))
   case atStart => exact ⟨(0), (0), z1_, z1_, H', ⟨Nat.le_refl _⟩, ⟨zr_ HO447.out⟩, ⟨zw0_ HB⟩⟩
   case round =>
    clear H'
    try clear c1
    try clear p2
    try clear c4
    try clear c5
    try clear c7
    try clear c7b0
    try clear c7b1
    try clear c10
    try clear c12
    try clear p2
    obtain ⟨x12_2, x13_2, rfl, rfl, HA, HK2, HO_10, HB⟩ := hrel
    cases gk with
    | zero => exact absurd HA.out (by simp [carouselref5_From.l0])
    | succ k2 =>
     have H := HA.out
     clear HA
     simp only [carouselref5_From.l0] at H
     by_cases c14 : x13_2 < (l0.length : Int)
     rotate_left
     ·rw [if_neg c14] at H
      have c14b0 : decide (x13_2 < (l0.length : Int)) = false := decide_eq_false c14
      clear c14
      simp only [Option.some.injEq, Prod.mk.injEq] at H
      obtain ⟨rfl, rfl⟩ := H
      go_wp2
      go_ret2
      exact ⟨z0_, zw0_ HB⟩
     rw [if_pos c14] at H
     have c14b0 : decide (x13_2 < (l0.length : Int)) = true := decide_eq_true c14
     clear c14
     obtain ⟨ji15, hji15⟩ : ∃ j_ : Int, (wrap64 ((wrap64 ((t444.length : Int) - (l0.length : Int))) + x13_2)) = j_ := ⟨_, rfl⟩
     replace H : (if 0 ≤ (ji15) then (if (ji15) < (t444.length : Int) then (if 0 ≤ x13_2 then (if (rd l0 x13_2) = 1 then (carouselref5_From.l0 k2 l0 t444 (wrap64 ((wrap64 (x12_2 * (rd l0 x13_2))) + 0)) (wrap64 (x13_2 + 1))) else (carouselref5_From.l0 k2 l0 t444 (wrap64 ((wrap64 (x12_2 * (rd l0 x13_2))) + (rd t444 (ji15)))) (wrap64 (x13_2 + 1)))) else (none)) else (none)) else (none)) = some (r1, r2) := by first | (rw [hji15] at H; exact H) | (simp only [hji15] at H ⊢; exact H)
     have hji15w : (IntKind.i64.wrap ((wrap64 ((t444.length : Int) - (l0.length : Int))) + x13_2)) = ji15 := (i64_w _).trans hji15
     by_cases c16 : 0 ≤ (ji15)
     rotate_left
     ·rw [if_neg c16] at H
      exact absurd H (by simp)
     rw [if_pos c16] at H
     have c16b0 : decide (0 ≤ (ji15)) = true := decide_eq_true c16
     clear c16
     by_cases c17 : (ji15) < (t444.length : Int)
     rotate_left
     ·rw [if_neg c17] at H
      exact absurd H (by simp)
     rw [if_pos c17] at H
     have c17b0 : decide ((ji15) < (t444.length : Int)) = true := decide_eq_true c17
     clear c17
     by_cases c18 : 0 ≤ x13_2
     rotate_left
     ·rw [if_neg c18] at H
      exact absurd H (by simp)
     rw [if_pos c18] at H
     have c18b0 : decide (0 ≤ x13_2) = true := decide_eq_true c18
     clear c18
     by_cases c19 : (rd l0 x13_2) = 1
     rotate_left
     ·rw [if_neg c19] at H
      have c19b0 : ((rd l0 x13_2) == 1) = false := beq_eq_false_iff_ne.mpr c19
      have c19b1 : ((rd l0 x13_2) != 1) = true := bne_iff_ne.mpr c19
      have H' := Aside0.mk H
      clear H
      obtain ⟨Ao21, co21, eo21⟩ := Kd.R_slice HO_10.out
      subst eo21
      have p448 : 0 ≤ ((ji15) : Int) := of_decide_eq_true (by first | (with_reducible assumption) | assumption)
      have q448 : (ji15) < (t444.length : Int) := of_decide_eq_true (by first | (with_reducible assumption) | assumption)
      obtain ⟨ad448, e448, hx448_0⟩ := Kd.at_int (Kd.R_reads' HO_10.out).2.2 (ji15) p448 q448
      cases e448
      replace p448 := eq_true p448
      replace q448 := eq_true q448
      have p449 : 0 ≤ (x13_2 : Int) := of_decide_eq_true (by first | (with_reducible assumption) | assumption)
      have q449 : x13_2 < (l0.length : Int) := of_decide_eq_true (by first | (with_reducible assumption) | assumption)
      obtain ⟨ad449, e449, hx449_0⟩ := Kd.at_int HR0.out x13_2 p449 q449
      cases e449
      replace hx449_0 := (HB.out.cell (World.block_lt_of_cell? w _ hx449_0)).trans hx449_0
      replace p449 := eq_true p449
      replace q449 := eq_true q449
      have p451 : 0 ≤ (x13_2 : Int) := of_decide_eq_true (by first | (with_reducible assumption) | assumption)
      have q451 : x13_2 < (l0.length : Int) := of_decide_eq_true (by first | (with_reducible assumption) | assumption)
      obtain ⟨ad451, e451, hx451_0⟩ := Kd.at_int HR0.out x13_2 p451 q451
      obtain rfl : ad449 = ad451 := (by injection e451)
      replace hx451_0 := (HB.out.cell (World.block_lt_of_cell? w _ hx451_0)).trans hx451_0
      replace p451 := eq_true p451
      replace q451 := eq_true q451
      go_wp2
      go_roundg k2
      case measure => have := HJ4.out; have := HK2.out; omega
      case rel => exact ⟨(wrap64 ((wrap64 (x12_2 * (rd l0 x13_2))) + (rd t444 (ji15)))), (wrap64 (x13_2 + 1)), (by first | rfl | (simp; done) | (simp only [← hji15] <;> (first | rfl | simp)) | (simp [*]; done)), z1_, H', ⟨by have := HJ4.out; have := HK2.out; omega⟩, ⟨zr_ HO_10.out⟩, ⟨zw0_ HB⟩⟩
     rw [if_pos c19] at H
     have c19b0 : ((rd l0 x13_2) == 1) = true := beq_iff_eq.mpr c19
     have c19b1 : ((rd l0 x13_2) != 1) = false := bne_eq_false_iff_eq.mpr c19
     clear c19
     have H' := Aside0.mk H
     clear H
     obtain ⟨Ao20, co20, eo20⟩ := Kd.R_slice HO_10.out
     subst eo20
     have p448 : 0 ≤ ((ji15) : Int) := of_decide_eq_true (by first | (with_reducible assumption) | assumption)
     have q448 : (ji15) < (t444.length : Int) := of_decide_eq_true (by first | (with_reducible assumption) | assumption)
     obtain ⟨ad448, e448, hx448_0⟩ := Kd.at_int (Kd.R_reads' HO_10.out).2.2 (ji15) p448 q448
     cases e448
     replace p448 := eq_true p448
     replace q448 := eq_true q448
     have p449 : 0 ≤ (x13_2 : Int) := of_decide_eq_true (by first | (with_reducible assumption) | assumption)
     have q449 : x13_2 < (l0.length : Int) := of_decide_eq_true (by first | (with_reducible assumption) | assumption)
     obtain ⟨ad449, e449, hx449_0⟩ := Kd.at_int HR0.out x13_2 p449 q449
     cases e449
     replace hx449_0 := (HB.out.cell (World.block_lt_of_cell? w _ hx449_0)).trans hx449_0
     replace p449 := eq_true p449
     replace q449 := eq_true q449
     have p450 : 0 ≤ (x13_2 : Int) := of_decide_eq_true (by first | (with_reducible assumption) | assumption)
     have q450 : x13_2 < (l0.length : Int) := of_decide_eq_true (by first | (with_reducible assumption) | assumption)
     obtain ⟨ad450, e450, hx450_0⟩ := Kd.at_int HR0.out x13_2 p450 q450
     obtain rfl : ad449 = ad450 := (by injection e450)
     replace hx450_0 := (HB.out.cell (World.block_lt_of_cell? w _ hx450_0)).trans hx450_0
     replace p450 := eq_true p450
     replace q450 := eq_true q450
     go_wp2
     go_roundg k2
     case measure => have := HJ4.out; have := HK2.out; omega
     case rel => exact ⟨(wrap64 ((wrap64 (x12_2 * (rd l0 x13_2))) + 0)), (wrap64 (x13_2 + 1)), z1_, z1_, H', ⟨by have := HJ4.out; have := HK2.out; omega⟩, ⟨zr_ HO_10.out⟩, ⟨zw0_ HB⟩⟩

/-! ### carouselref1_less: function 77 -/
def carouselref1_less.s (a0 a1 a2 a3 b0 b1 b2 b3 : Int) : Bool := if a3 = b3 then (if a2 = b2 then (if a1 = b1 then (if a0 = b0 then false else decide (a0 < b0)) else decide (a1 < b1)) else decide (a2 < b2)) else decide (a3 < b3)
def carouselref1_less.f (a0_0 : Int) (a0_1 : Int) (a0_2 : Int) (a0_3 : Int) (a1_0 : Int) (a1_1 : Int) (a1_2 : Int) (a1_3 : Int) : Option (Bool) := some (carouselref1_less.s a0_0 a0_1 a0_2 a0_3 a1_0 a1_1 a1_2 a1_3)
set_option maxHeartbeats 8000000 in
set_option maxRecDepth 100000 in
theorem carouselref1_less.calls (a0_0 : Int) (a0_1 : Int) (a0_2 : Int) (a0_3 : Int) (a1_0 : Int) (a1_1 : Int) (a1_2 : Int) (a1_3 : Int) (r : Bool) (w : World) (h : carouselref1_less.f a0_0 a0_1 a0_2 a0_3 a1_0 a1_1 a1_2 a1_3 = some r) :
  Calls Try.prog 77 #[.agg #[.int .u64 a0_0, .int .u64 a0_1, .int .u64 a0_2, .int .u64 a0_3], .agg #[.int .u64 a1_0, .int .u64 a1_1, .int .u64 a1_2, .int .u64 a1_3]] w fun e w' => e = .returned (.bool r) ∧ Below w.heap.size w w' := by
 have H0 := Aside0.mk (Option.some.inj h)
 clear h
 have HB := Aside0.mk (Below.refl w.heap.size w)
 have hu72 := Try.underlying72
 go_enter Try.func77, Try.ntmps77
 go_wp2
 refine wp_loop_rounds 5 ?_
 rw [rounds_succ]
 by_cases c3 : a0_3 = a1_3
 case neg =>
  have d3 : (a0_3 == a1_3) = false := by simp [c3]
  have C3 := Aside0.mk c3
  clear c3
  go_wp2
  go_quiet (fail)
  go_wp2
  go_quiet (fail)
  go_wp2
  go_ret
  refine ⟨?_, zw0_ HB⟩
  have H := H0.out
  unfold carouselref1_less.s at H
  rw [if_neg C3.out] at H
  rw [← H]
  rfl
 case pos =>
  have d3 : (a0_3 == a1_3) = true := by simp [c3]
  have C3 := Aside0.mk c3
  clear c3
  go_wp2
  go_quiet (fail)
  go_wp2
  rw [rounds_succ]
  by_cases c2 : a0_2 = a1_2
  case neg =>
   have d2 : (a0_2 == a1_2) = false := by simp [c2]
   have C2 := Aside0.mk c2
   clear c2
   go_wp2
   go_quiet (fail)
   go_wp2
   go_quiet (fail)
   go_wp2
   go_ret
   refine ⟨?_, zw0_ HB⟩
   have H := H0.out
   unfold carouselref1_less.s at H
   rw [if_pos C3.out, if_neg C2.out] at H
   rw [← H]
   rfl
  case pos =>
   have d2 : (a0_2 == a1_2) = true := by simp [c2]
   have C2 := Aside0.mk c2
   clear c2
   go_wp2
   go_quiet (fail)
   go_wp2
   rw [rounds_succ]
   by_cases c1 : a0_1 = a1_1
   case neg =>
    have d1 : (a0_1 == a1_1) = false := by simp [c1]
    have C1 := Aside0.mk c1
    clear c1
    go_wp2
    go_quiet (fail)
    go_wp2
    go_quiet (fail)
    go_wp2
    go_ret
    refine ⟨?_, zw0_ HB⟩
    have H := H0.out
    unfold carouselref1_less.s at H
    rw [if_pos C3.out, if_pos C2.out, if_neg C1.out] at H
    rw [← H]
    rfl
   case pos =>
    have d1 : (a0_1 == a1_1) = true := by simp [c1]
    have C1 := Aside0.mk c1
    clear c1
    go_wp2
    go_quiet (fail)
    go_wp2
    rw [rounds_succ]
    by_cases c0 : a0_0 = a1_0
    case neg =>
     have d0 : (a0_0 == a1_0) = false := by simp [c0]
     have C0 := Aside0.mk c0
     clear c0
     go_wp2
     go_quiet (fail)
     go_wp2
     go_quiet (fail)
     go_wp2
     go_ret
     refine ⟨?_, zw0_ HB⟩
     have H := H0.out
     unfold carouselref1_less.s at H
     rw [if_pos C3.out, if_pos C2.out, if_pos C1.out, if_neg C0.out] at H
     rw [← H]
     rfl
    case pos =>
     have d0 : (a0_0 == a1_0) = true := by simp [c0]
     have C0 := Aside0.mk c0
     clear c0
     go_wp2
     go_quiet (fail)
     go_wp2
     rw [rounds_succ]
     go_wp2
     go_ret
     refine ⟨?_, zw0_ HB⟩
     have H := H0.out
     unfold carouselref1_less.s at H
     rw [if_pos C3.out, if_pos C2.out, if_pos C1.out, if_pos C0.out] at H
     rw [← H]
     rfl

/-! ### carouselref1_minus: function 78 -/
def carouselref1_minus.s (a b c : Int) : Int := IntKind.u64.wrap (IntKind.u64.wrap (a - b) - c)
def carouselref1_minus.c (a b c : Int) : Int := if a < b then 1 else if IntKind.u64.wrap (a - b) < c then 1 else 0
theorem carouselref1_minus.s_z (a b : Int) : IntKind.u64.wrap (IntKind.u64.wrap (a - b)) = carouselref1_minus.s a b 0 := by unfold carouselref1_minus.s; rw [Int.sub_zero]
theorem carouselref1_minus.c_pos (a b c : Int) (h : a < b) : 1 = carouselref1_minus.c a b c := by unfold carouselref1_minus.c; rw [if_pos h]
theorem carouselref1_minus.c_mid (a b c : Int) (h1 : ¬ a < b) (h : IntKind.u64.wrap (a - b) < c) : 1 = carouselref1_minus.c a b c := by
 unfold carouselref1_minus.c; rw [if_neg h1, if_pos h]
theorem carouselref1_minus.c_neg (a b c : Int) (h1 : ¬ a < b) (h2 : c ≤ IntKind.u64.wrap (a - b)) : 0 = carouselref1_minus.c a b c := by unfold carouselref1_minus.c; rw [if_neg h1, if_neg (by omega)]
theorem carouselref1_minus.c_posz (a b : Int) (h : a < b) : 1 = carouselref1_minus.c a b 0 := carouselref1_minus.c_pos a b 0 h
theorem carouselref1_minus.c_midz (a b : Int) (h1 : ¬ a < b) (h : IntKind.u64.wrap (a - b) < 0) : 1 = carouselref1_minus.c a b 0 := carouselref1_minus.c_mid a b 0 h1 h
theorem carouselref1_minus.c_negz (a b : Int) (h1 : ¬ a < b) (h2 : 0 ≤ IntKind.u64.wrap (a - b)) : 0 = carouselref1_minus.c a b 0 := carouselref1_minus.c_neg a b 0 h1 h2
def carouselref1_minus.f (a0_0 : Int) (a0_1 : Int) (a0_2 : Int) (a0_3 : Int) (a1_0 : Int) (a1_1 : Int) (a1_2 : Int) (a1_3 : Int) : Option (Int × Int × Int × Int) := some (carouselref1_minus.s a0_0 a1_0 0, carouselref1_minus.s a0_1 a1_1 (carouselref1_minus.c a0_0 a1_0 0), carouselref1_minus.s a0_2 a1_2 (carouselref1_minus.c a0_1 a1_1 (carouselref1_minus.c a0_0 a1_0 0)), carouselref1_minus.s a0_3 a1_3 (carouselref1_minus.c a0_2 a1_2 (carouselref1_minus.c a0_1 a1_1 (carouselref1_minus.c a0_0 a1_0 0))))
set_option maxHeartbeats 8000000 in
set_option maxRecDepth 100000 in
theorem carouselref1_minus.calls (a0_0 : Int) (a0_1 : Int) (a0_2 : Int) (a0_3 : Int) (a1_0 : Int) (a1_1 : Int) (a1_2 : Int) (a1_3 : Int) (r1 : Int) (r2 : Int) (r3 : Int) (r4 : Int) (w : World) (h : carouselref1_minus.f a0_0 a0_1 a0_2 a0_3 a1_0 a1_1 a1_2 a1_3 = some (r1, r2, r3, r4)) :
  Calls Try.prog 78 #[.agg #[.int .u64 a0_0, .int .u64 a0_1, .int .u64 a0_2, .int .u64 a0_3], .agg #[.int .u64 a1_0, .int .u64 a1_1, .int .u64 a1_2, .int .u64 a1_3]] w fun e w' => e = .returned (.agg #[.int .u64 r1, .int .u64 r2, .int .u64 r3, .int .u64 r4]) ∧ Below w.heap.size w w' := by
 unfold carouselref1_minus.f at h
 have H0 := Aside0.mk h
 clear h
 have hu72 := Try.underlying72
 go_enter Try.func78, Try.ntmps78
 go_wp2
 refine wp_loop_rounds 5 ?_
 rw [rounds_succ]
 go_upto_block 1 with (fail)
 go_cut [6] (fun v6 wc => ∃ (n : Nat) (k0 t0 : Int), v6 = .int .u64 k0 ∧ Aside0 (k0 = carouselref1_minus.c a0_0 a1_0 0) ∧ Aside0 (t0 = carouselref1_minus.s a0_0 a1_0 0) ∧ wc = (((((w.alloc (.cells #[.int .u64 a0_0, .int .u64 a0_1, .int .u64 a0_2, .int .u64 a0_3] 72)).alloc (.cells #[.int .u64 a1_0, .int .u64 a1_1, .int .u64 a1_2, .int .u64 a1_3] 72)).alloc (.cells #[.int .u64 0, .int .u64 0, .int .u64 0, .int .u64 0] 72)).alloc (.cells #[.int .u64 t0, .int .u64 0, .int .u64 0, .int .u64 0] 72))).drewN n)
 case first =>
  go_wp2
  go_quiet (fail)
  go_wp2
  by_cases cc : a0_0 < a1_0
  case pos =>
   go_quiet (fail)
   go_wp2
   go_meet
   exact ⟨_, _, _, rfl, ⟨carouselref1_minus.c_posz a0_0 a1_0 cc⟩, ⟨carouselref1_minus.s_z a0_0 a1_0⟩, set_last4_ _ _ _ _ _ _ _ _ _ _⟩
  case neg =>
   have dd : decide (a0_0 < a1_0) = false := decide_eq_false cc
   have CC := Aside0.mk cc
   clear cc
   go_quiet (fail)
   go_wp2
   all_goals go_meet
   all_goals first | exact ⟨_, _, _, rfl, ⟨carouselref1_minus.c_midz a0_0 a1_0 (by have := CC.out; omega) (by assumption)⟩, ⟨carouselref1_minus.s_z a0_0 a1_0⟩, set_last4_ _ _ _ _ _ _ _ _ _ _⟩ | exact ⟨_, _, _, rfl, ⟨carouselref1_minus.c_negz a0_0 a1_0 (by have := CC.out; omega) (by assumption)⟩, ⟨carouselref1_minus.s_z a0_0 a1_0⟩, set_last4_ _ _ _ _ _ _ _ _ _ _⟩
 case rest =>
  obtain ⟨n0, k0, t0, rfl, K0, T0, rfl⟩ := hcut
  go_wp2
  rw [rounds_succ]
  go_upto_block 1 with (fail)
  go_cut [6] (fun v6 wc => ∃ (n : Nat) (k1 t1 : Int), v6 = .int .u64 k1 ∧ Aside0 (k1 = carouselref1_minus.c a0_1 a1_1 k0) ∧ Aside0 (t1 = carouselref1_minus.s a0_1 a1_1 k0) ∧ wc = (((((w.alloc (.cells #[.int .u64 a0_0, .int .u64 a0_1, .int .u64 a0_2, .int .u64 a0_3] 72)).alloc (.cells #[.int .u64 a1_0, .int .u64 a1_1, .int .u64 a1_2, .int .u64 a1_3] 72)).alloc (.cells #[.int .u64 0, .int .u64 0, .int .u64 0, .int .u64 0] 72)).alloc (.cells #[.int .u64 t0, .int .u64 t1, .int .u64 0, .int .u64 0] 72))).drewN n)
  case first =>
   go_wp2
   go_quiet (fail)
   go_wp2
   by_cases cc : a0_1 < a1_1
   case pos =>
    go_quiet (fail)
    go_wp2
    go_meet
    exact ⟨_, _, _, rfl, ⟨carouselref1_minus.c_pos a0_1 a1_1 k0 cc⟩, ⟨rfl⟩, set_last4_ _ _ _ _ _ _ _ _ _ _⟩
   case neg =>
    have dd : decide (a0_1 < a1_1) = false := decide_eq_false cc
    have CC := Aside0.mk cc
    clear cc
    go_quiet (fail)
    go_wp2
    all_goals go_meet
    all_goals first | exact ⟨_, _, _, rfl, ⟨carouselref1_minus.c_mid a0_1 a1_1 k0 (by have := CC.out; omega) (by assumption)⟩, ⟨rfl⟩, set_last4_ _ _ _ _ _ _ _ _ _ _⟩ | exact ⟨_, _, _, rfl, ⟨carouselref1_minus.c_neg a0_1 a1_1 k0 (by have := CC.out; omega) (by assumption)⟩, ⟨rfl⟩, set_last4_ _ _ _ _ _ _ _ _ _ _⟩
  case rest =>
   obtain ⟨n1, k1, t1, rfl, K1, T1, rfl⟩ := hcut
   go_wp2
   rw [rounds_succ]
   go_upto_block 1 with (fail)
   go_cut [6] (fun v6 wc => ∃ (n : Nat) (k2 t2 : Int), v6 = .int .u64 k2 ∧ Aside0 (k2 = carouselref1_minus.c a0_2 a1_2 k1) ∧ Aside0 (t2 = carouselref1_minus.s a0_2 a1_2 k1) ∧ wc = (((((w.alloc (.cells #[.int .u64 a0_0, .int .u64 a0_1, .int .u64 a0_2, .int .u64 a0_3] 72)).alloc (.cells #[.int .u64 a1_0, .int .u64 a1_1, .int .u64 a1_2, .int .u64 a1_3] 72)).alloc (.cells #[.int .u64 0, .int .u64 0, .int .u64 0, .int .u64 0] 72)).alloc (.cells #[.int .u64 t0, .int .u64 t1, .int .u64 t2, .int .u64 0] 72))).drewN n)
   case first =>
    go_wp2
    go_quiet (fail)
    go_wp2
    by_cases cc : a0_2 < a1_2
    case pos =>
     go_quiet (fail)
     go_wp2
     go_meet
     exact ⟨_, _, _, rfl, ⟨carouselref1_minus.c_pos a0_2 a1_2 k1 cc⟩, ⟨rfl⟩, set_last4_ _ _ _ _ _ _ _ _ _ _⟩
    case neg =>
     have dd : decide (a0_2 < a1_2) = false := decide_eq_false cc
     have CC := Aside0.mk cc
     clear cc
     go_quiet (fail)
     go_wp2
     all_goals go_meet
     all_goals first | exact ⟨_, _, _, rfl, ⟨carouselref1_minus.c_mid a0_2 a1_2 k1 (by have := CC.out; omega) (by assumption)⟩, ⟨rfl⟩, set_last4_ _ _ _ _ _ _ _ _ _ _⟩ | exact ⟨_, _, _, rfl, ⟨carouselref1_minus.c_neg a0_2 a1_2 k1 (by have := CC.out; omega) (by assumption)⟩, ⟨rfl⟩, set_last4_ _ _ _ _ _ _ _ _ _ _⟩
   case rest =>
    obtain ⟨n2, k2, t2, rfl, K2, T2, rfl⟩ := hcut
    go_wp2
    rw [rounds_succ]
    go_upto_block 1 with (fail)
    go_cut [6] (fun v6 wc => ∃ (n : Nat) (k3 t3 : Int), v6 = .int .u64 k3 ∧ Aside0 (k3 = carouselref1_minus.c a0_3 a1_3 k2) ∧ Aside0 (t3 = carouselref1_minus.s a0_3 a1_3 k2) ∧ wc = (((((w.alloc (.cells #[.int .u64 a0_0, .int .u64 a0_1, .int .u64 a0_2, .int .u64 a0_3] 72)).alloc (.cells #[.int .u64 a1_0, .int .u64 a1_1, .int .u64 a1_2, .int .u64 a1_3] 72)).alloc (.cells #[.int .u64 0, .int .u64 0, .int .u64 0, .int .u64 0] 72)).alloc (.cells #[.int .u64 t0, .int .u64 t1, .int .u64 t2, .int .u64 t3] 72))).drewN n)
    case first =>
     go_wp2
     go_quiet (fail)
     go_wp2
     by_cases cc : a0_3 < a1_3
     case pos =>
      go_quiet (fail)
      go_wp2
      go_meet
      exact ⟨_, _, _, rfl, ⟨carouselref1_minus.c_pos a0_3 a1_3 k2 cc⟩, ⟨rfl⟩, set_last4_ _ _ _ _ _ _ _ _ _ _⟩
     case neg =>
      have dd : decide (a0_3 < a1_3) = false := decide_eq_false cc
      have CC := Aside0.mk cc
      clear cc
      go_quiet (fail)
      go_wp2
      all_goals go_meet
      all_goals first | exact ⟨_, _, _, rfl, ⟨carouselref1_minus.c_mid a0_3 a1_3 k2 (by have := CC.out; omega) (by assumption)⟩, ⟨rfl⟩, set_last4_ _ _ _ _ _ _ _ _ _ _⟩ | exact ⟨_, _, _, rfl, ⟨carouselref1_minus.c_neg a0_3 a1_3 k2 (by have := CC.out; omega) (by assumption)⟩, ⟨rfl⟩, set_last4_ _ _ _ _ _ _ _ _ _ _⟩
    case rest =>
     obtain ⟨n3, k3, t3, rfl, K3, T3, rfl⟩ := hcut
     go_wp2
     rw [rounds_succ]
     go_wp2
     have E := end4_ w (.cells #[.int .u64 a0_0, .int .u64 a0_1, .int .u64 a0_2, .int .u64 a0_3] 72) (.cells #[.int .u64 a1_0, .int .u64 a1_1, .int .u64 a1_2, .int .u64 a1_3] 72) (.cells #[.int .u64 t0, .int .u64 t1, .int .u64 t2, .int .u64 t3] 72) 72 n3 (.int .u64 0) (.int .u64 0) (.int .u64 0) (.int .u64 0) (.int .u64 t0) (.int .u64 t1) (.int .u64 t2) (.int .u64 t3)
     refine bodyPost_ret (results_cell_row rfl _ _ (w.heap.size + 1 + 1) 72 #[.int .u64 t0, .int .u64 t1, .int .u64 t2, .int .u64 t3] (0, 0) _ rfl E.1 hu72 rfl (by kernel_rfl)) rfl ⟨?_, E.2⟩
     have H := H0.out
     simp only [Option.some.injEq, Prod.mk.injEq] at H
     obtain ⟨rfl, rfl, rfl, rfl⟩ := H
     rw [T0.out, T1.out, T2.out, T3.out, K2.out, K1.out, K0.out]

end Go.Proofs.Ytbdhabpplidgfaa.PTensTurns
