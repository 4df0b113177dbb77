/- Texts of the proof of TopNames, part 3: the walks through the program and what they lean on, pruned to what is used. Plain theorems and definitions. -/
import Derived.Test.YtmddclifcgcpcaaGreatDoorTN2
set_option linter.unusedVariables false
set_option linter.unusedSimpArgs false
set_option maxHeartbeats 8000000
set_option maxRecDepth 100000
namespace Go.Proofs.YtmddclifcgcpcaaGreatDoor.PTopNames
open Go.RowKit Go.Proofs.YtmddclifcgcpcaaGreatDoorW.PrintWords Go.Proofs.YtmddclifcgcpcaaGreatDoorW.PrintLast Go.Proofs.YtmddclifcgcpcaaGreatDoorW.PrintMore
attribute [local go_sem] max2_int min2_int max_two min_two max_three min_three max_four min_four
mutual
def matm_Sum.j0 : Nat → Int → Bool → List Int → List Int → Option (List Int × List Int × Int)
 | 0, _, _, _, _ => none
 | k + 1, x1, x29, x856000, x856001 => if x29 = true then (none) else ((some (([] : List Int) : List Int)).bind fun y858 => (if 0 ≤ x1 then (if x1 ≤ (x856000.length : Int) then (if y858.length + (x856000.take (x1 : Int).toNat).length < 17592186044416 then ((some (y858 ++ (x856000.take (x1 : Int).toNat) : List Int)).bind fun y862 => (if 0 ≤ (wrap64 (x1 + 1)) then (if (wrap64 (x1 + 1)) ≤ (x856000.length : Int) then (if y862.length + (x856000.drop ((wrap64 (x1 + 1)) : Int).toNat).length < 17592186044416 then ((some (y862 ++ (x856000.drop ((wrap64 (x1 + 1)) : Int).toNat) : List Int)).bind fun y866 => ((shape_Size.f k y866).bind fun t869 => (if 0 ≤ t869 then (if (t869 : Int).toNat ≤ 17592186044416 then ((shape_Strides.f k x856000).bind fun t873 => (if x1 < (t873.length : Int) then (matm_Sum.l0 k x1 y866 (List.replicate (t869 : Int).toNat z292) (rd t873 x1) x856001 (x856001.length : Int) 0 x856000 x856001) else (none))) else (none)) else (none)))) else (none)) else (none)) else (none))) else (none)) else (none)) else (none)))
def matm_Sum.l0 : Nat → Int → List Int → List (S292) → Int → List Int → Int → Int → List Int → List Int → Option (List Int × List Int × Int)
 | 0, _, _, _, _, _, _, _, _, _ => none
 | k + 1, x1, x6, x7, x8, x53, x54, x55, x856000, x856001 => if x55 < x54 then (if 0 ≤ x55 then (if x55 < (x53.length : Int) then (if 0 ≤ x1 then (if x1 < (x856000.length : Int) then (if (wrap64 (x8 * (rd x856000 x1))) = 0 then (none) else (if x8 = 0 then (none) else (if 0 ≤ (wrap64 ((wrap64 ((wrap64 (Int.tdiv x55 (wrap64 (x8 * (rd x856000 x1))))) * x8)) + (Int.tmod x55 x8))) then (if (wrap64 ((wrap64 ((wrap64 (Int.tdiv x55 (wrap64 (x8 * (rd x856000 x1))))) * x8)) + (Int.tmod x55 x8))) < (x7.length : Int) then ((wide_Of.f (rd x53 x55)).bind fun bt880 => ((wide_Add.f ((rd_T292 x7 (wrap64 ((wrap64 ((wrap64 (Int.tdiv x55 (wrap64 (x8 * (rd x856000 x1))))) * x8)) + (Int.tmod x55 x8)))).f0) ((rd_T292 x7 (wrap64 ((wrap64 ((wrap64 (Int.tdiv x55 (wrap64 (x8 * (rd x856000 x1))))) * x8)) + (Int.tmod x55 x8)))).f1) bt880.1 bt880.2).bind fun bt882 => (matm_Sum.l0 k x1 x6 (x7.set ((wrap64 ((wrap64 ((wrap64 (Int.tdiv x55 (wrap64 (x8 * (rd x856000 x1))))) * x8)) + (Int.tmod x55 x8))) : Int).toNat (⟨bt882.1, bt882.2⟩ : S292)) x8 x53 x54 (wrap64 (x55 + 1)) x856000 x856001))) else (none)) else (none)))) else (none)) else (none)) else (none)) else (none)) else ((tens_New.f k x6 0).bind fun bt885 => (matm_Sum.l1 k x7 (x7.length : Int) 0 bt885.1 bt885.2.1))
def matm_Sum.l1 : Nat → List (S292) → Int → Int → List Int → List Int → Option (List Int × List Int × Int)
 | 0, _, _, _, _, _ => none
 | k + 1, x91, x92, x93, x893000, x893001 => if x93 < x92 then (if 0 ≤ x93 then (if x93 < (x91.length : Int) then ((wide_Fix.f k ((rd_T292 x91 x93).f0) ((rd_T292 x91 x93).f1)).bind fun t895 => (if x93 < (x893001.length : Int) then (matm_Sum.l1 k x91 x92 (wrap64 (x93 + 1)) x893000 (x893001.set (x93 : Int).toNat t895)) else (none))) else (none)) else (none)) else (some (x893000, x893001, 0))
end
def matm_Sum.f (k : Nat) (l0_0 : List Int) (l0_1 : List Int) (a1 : Int) : Option (List Int × List Int × Int) := (tens_Good.f k l0_0 l0_1).bind fun t857 => (if t857 = true then (if a1 < 0 then (matm_Sum.j0 k a1 true l0_0 l0_1) else (matm_Sum.j0 k a1 (decide (a1 ≥ (l0_0.length : Int))) l0_0 l0_1)) else (matm_Sum.j0 k a1 true l0_0 l0_1))
def matm_Sum.T3 : Bool × List (List Nat × List Nat) := (true, [([], []), ([], []), ([1], [1]), ([], []), ([2, 3], [2, 3]), ([0, 4], [0, 4]), ([], []), ([6], [6]), ([], []), ([8], [8]), ([7, 9], [7, 9]), ([5, 10, 5], [5, 10]), ([11, 11, 0, 1, 2, 3, 4, 5, 6, 7, 8, 9, 10, 11], [11])])
def matm_Sum.B3 : List Nat := [0, 0, 2, 0, 14, 31, 0, 64, 0, 256, 960, 2047, 4095]
theorem matm_Sum.tab3 : rtab .any (opsOf Tryz.f387 3) = matm_Sum.T3 := by kernel_rfl
theorem matm_Sum.bits3 : waitsOk matm_Sum.T3.2 matm_Sum.B3 = true := by kernel_rfl
def matm_Sum.T9 : Bool × List (List Nat × List Nat) := (true, [([], []), ([], []), ([], []), ([2], [2]), ([], []), ([3, 4], [3, 4]), ([5], [5]), ([1, 6], [1, 6]), ([0, 7], [0, 7]), ([], []), ([8, 9], [8, 9]), ([], []), ([], []), ([11, 12], [11, 12]), ([10, 13], [10, 13]), ([14, 0, 1, 2, 3, 4, 5, 6, 7, 8, 9, 10, 11, 12, 13, 14], [14])])
def matm_Sum.B9 : List Nat := [0, 0, 0, 4, 0, 28, 60, 126, 255, 0, 1023, 0, 0, 6144, 16383, 32767]
theorem matm_Sum.tab9 : rtab .any (opsOf Tryz.f387 9) = matm_Sum.T9 := by kernel_rfl
theorem matm_Sum.bits9 : waitsOk matm_Sum.T9.2 matm_Sum.B9 = true := by kernel_rfl
def matm_Sum.T10 : Bool × List (List Nat × List Nat) := (true, [([], []), ([], []), ([], []), ([], []), ([2, 3], [2, 3]), ([4], [4]), ([], []), ([6], [6]), ([5, 7, 7], [5, 7]), ([0, 1, 0, 1, 2, 3, 4, 5, 6, 7, 8], [0, 1]), ([9, 8, 8, 0, 1, 2, 3, 4, 5, 6, 7, 8], [8, 9])])
def matm_Sum.B10 : List Nat := [0, 0, 0, 0, 12, 28, 0, 64, 252, 511, 1023]
theorem matm_Sum.tab10 : rtab .any (opsOf Tryz.f387 10) = matm_Sum.T10 := by kernel_rfl
theorem matm_Sum.bits10 : waitsOk matm_Sum.T10.2 matm_Sum.B10 = true := by kernel_rfl
theorem matm_Sum.calls (k : Nat) (A0_0 : Option Addr) (c0_0 : Nat) (l0_0 : List Int) (A0_1 : Option Addr) (c0_1 : Nat) (l0_1 : List Int) (a1 : Int) (r1 : List Int) (r2 : List Int) (r3 : Int) (w : World) (hr0_0 : Kd.C (Kd.int .i64) w A0_0 l0_0.length l0_0) (hc0_0 : l0_0.length ≤ c0_0) (hr0_1 : Kd.C (Kd.int .i64) w A0_1 l0_1.length l0_1) (hc0_1 : l0_1.length ≤ c0_1) (h : matm_Sum.f k l0_0 l0_1 a1 = some (r1, r2, r3)) :
  Calls Tryz.prog 387 #[.agg #[.slice A0_0 l0_0.length c0_0, .slice A0_1 l0_1.length c0_1], .int .i64 a1] w fun e w' => ∃ v0_ v1_ : Value, e = .returned (.tuple #[.agg #[v0_, v1_], .int .i64 r3]) ∧ Kd.R (Kd.int .i64) 3 w' w.heap.size (fun _ => True) v0_ r1 ∧ Kd.R (Kd.int .i64) 36 w' w.heap.size (fun _ => True) v1_ r2 ∧ Below w.heap.size w w' := by
 have hu273 := Tryz.underlying273
 have hu292 := Tryz.underlying292
 have HR0_0 := zA_ hr0_0
 have HC0_0 := zA_ hc0_0
 clear hr0_0 hc0_0
 have HR0_1 := zA_ hr0_1
 have HC0_1 := zA_ hc0_1
 clear hr0_1 hc0_1
 have HB := zA_ (Below.refl w.heap.size w)
 have H : ((tens_Good.f k l0_0 l0_1).bind fun t857 => (if t857 = true then (if a1 < 0 then (matm_Sum.j0 k a1 true l0_0 l0_1) else (matm_Sum.j0 k a1 (decide (a1 ≥ (l0_0.length : Int))) l0_0 l0_1)) else (matm_Sum.j0 k a1 true l0_0 l0_1))) = some (r1, r2, r3) := h
 clear h
 have HC3 := zA_ H
 clear H
 go_enter Tryz.func387, Tryz.ntmps387
 go_upto_region 1 with (first | ((with_reducible refine gate_dst (N := 2) rfl ?_); (try (refine gate_guard (by rfl) ?_; dsimp only)); refine zB_ (#[.slice A0_0 l0_0.length c0_0, .slice A0_1 l0_1.length c0_1]) 273 ?_; intro gb855 hg w4 hbox hb; have BK855 := zA_ (hbox); have GW855 := zA_ (zs_ hg (zw0_ HB)); have GE855 := zA_ (zs_ hg (zw0_ HB)); replace HB := zA_ (below_step (zw0_ HB) hb); clear hb hbox hg) | ((with_reducible refine gate_dst (N := 4) rfl ?_); (try (refine gate_guard (by rfl) ?_; dsimp only)); refine zB_ (#[.slice none 0 0, .slice none 0 0]) 273 ?_; intro gb856 hg w5 hbox hb; have BK856 := zA_ (hbox); have GW856 := zA_ (zs_ hg (zw1_ HB GE855)); have GE856 := zA_ (zs_ hg (zw1_ HB GE855)); replace HB := zA_ (below_step (zw1_ HB GE855) hb); have NB855_856 := zA_ (zn_ hg BK855); have NB856_855 := zA_ (zm_ hg BK855); replace BK855 := za_ BK855 hb; clear hb hbox hg))
 (try simp only [Act.put, List.setIfInBounds_toArray, List.set_cons_zero, List.set_cons_succ])
 go_cut [29] (fun v29 wc => ∃ (kq : Nat) (x29_2 : Bool), v29 = .bool x29_2 ∧ Aside0 (matm_Sum.j0 kq a1 x29_2 l0_0 l0_1 = some (r1, r2, r3)) ∧ Aside0 (kq ≤ k) ∧ Aside0 (wc.heap[gb855]? = some (.cells #[(.slice A0_0 l0_0.length c0_0), (.slice A0_1 l0_1.length c0_1)] 273 (0, 0))) ∧ Aside0 (wc.heap[gb856]? = some (.cells #[(.slice none 0 0), (.slice none 0 0)] 273 (0, 0))) ∧ Aside0 (Below w.heap.size w wc))
 case first =>
  have H := HC3.out
  clear HC3
  replace H := zO_ H
  obtain ⟨t857, A60, H⟩ := H
  (try dsimp only at H)
  have A6 := zA_ A60
  clear A60
  by_cases c7 : t857 = true
  rotate_left
  ·replace c7 := Bool.eq_false_iff.mpr c7
   subst c7
   have H1 : (matm_Sum.j0 k a1 true l0_0 l0_1) = some (r1, r2, r3) := by rw [if_neg (show ¬ (false = true) by decide)] at H; exact H
   clear H
   have H := H1
   clear H1
   have H' := zA_ H
   clear H
   have hnb16 := NB855_856.out
   have hnc16 := NB856_855.out
   have hcz17_0 := zx_ (v := .slice A0_0 l0_0.length c0_0) BK855 0
   have hcz17_1 := zx_ (v := .slice A0_1 l0_1.length c0_1) BK855 1
   have hfz17_0 := blk_frozen BK855.out 0
   have hfz17_1 := blk_frozen BK855.out 1
   go_wp2_with (first | ((with_reducible refine gate_callee (f := 308) rfl ?_); refine zg_ (some 17) Tryz.func308 #[.agg #[.slice A0_0 l0_0.length c0_0, .slice A0_1 l0_1.length c0_1]] (h := ?_); (with_reducible refine (tens_Good.calls k _ _ l0_0 _ _ l0_1 false _ ?side1 ?side2 ?side3 ?side4 A6.out).mono ?_); (case side1 => exact zk_ (Kd.C_below HR0_0.out HB.out)); (case side2 => exact HC0_0.out); (case side3 => exact zk_ (Kd.C_below HR0_1.out HB.out)); (case side4 => exact HC0_1.out); rintro e w18 ⟨rfl, hb⟩; refine ⟨_, rfl, ?_⟩; replace BK855 := za_ BK855 hb; replace BK856 := za_ BK856 hb; replace HB := zA_ (below_step (zw2_ HB GE855 GE856) hb); (try clear hb)))
   go_meet
   case rel => exact ⟨_, (true), z1_, H', ⟨by first | omega | exact Nat.le_refl _⟩, ⟨zb_ BK855⟩, ⟨zb_ BK856⟩, ⟨zw2_ HB GE855 GE856⟩⟩
  subst c7
  have H1 := H
  rw [if_pos rfl] at H1
  clear H
  have H := H1
  clear H1
  by_cases c8 : a1 < 0
  ·rw [if_pos c8] at H
   have c8b0 : decide (a1 < 0) = true := decide_eq_true c8
   clear c8
   (first | rw [c8b0] | (simp only [i64_w, i32_w]; rw [c8b0]) | skip)
   have H' := zA_ H
   clear H
   have hnb9 := NB855_856.out
   have hnc9 := NB856_855.out
   have hcz10_0 := zx_ (v := .slice A0_0 l0_0.length c0_0) BK855 0
   have hcz10_1 := zx_ (v := .slice A0_1 l0_1.length c0_1) BK855 1
   have hfz10_0 := blk_frozen BK855.out 0
   have hfz10_1 := blk_frozen BK855.out 1
   go_wp2_with (first | ((with_reducible refine gate_callee (f := 308) rfl ?_); refine zg_ (some 17) Tryz.func308 #[.agg #[.slice A0_0 l0_0.length c0_0, .slice A0_1 l0_1.length c0_1]] (h := ?_); (with_reducible refine (tens_Good.calls k _ _ l0_0 _ _ l0_1 true _ ?side1 ?side2 ?side3 ?side4 A6.out).mono ?_); (case side1 => exact zk_ (Kd.C_below HR0_0.out HB.out)); (case side2 => exact HC0_0.out); (case side3 => exact zk_ (Kd.C_below HR0_1.out HB.out)); (case side4 => exact HC0_1.out); rintro e w11 ⟨rfl, hb⟩; refine ⟨_, rfl, ?_⟩; replace BK855 := za_ BK855 hb; replace BK856 := za_ BK856 hb; replace HB := zA_ (below_step (zw2_ HB GE855 GE856) hb); (try clear hb)))
   go_meet
   case rel => exact ⟨_, (true), z1_, H', ⟨by first | omega | exact Nat.le_refl _⟩, ⟨zb_ BK855⟩, ⟨zb_ BK856⟩, ⟨zw2_ HB GE855 GE856⟩⟩
  rw [if_neg c8] at H
  have c8b0 : decide (a1 < 0) = false := decide_eq_false c8
  clear c8
  (first | rw [c8b0] | (simp only [i64_w, i32_w]; rw [c8b0]) | skip)
  have H' := zA_ H
  clear H
  have hnb12 := NB855_856.out
  have hnc12 := NB856_855.out
  have hcz13_0 := zx_ (v := .slice A0_0 l0_0.length c0_0) BK855 0
  have hcz13_1 := zx_ (v := .slice A0_1 l0_1.length c0_1) BK855 1
  have hfz13_0 := blk_frozen BK855.out 0
  have hfz13_1 := blk_frozen BK855.out 1
  go_wp2_with (first | ((with_reducible refine gate_callee (f := 308) rfl ?_); refine zg_ (some 17) Tryz.func308 #[.agg #[.slice A0_0 l0_0.length c0_0, .slice A0_1 l0_1.length c0_1]] (h := ?_); (with_reducible refine (tens_Good.calls k _ _ l0_0 _ _ l0_1 true _ ?side1 ?side2 ?side3 ?side4 A6.out).mono ?_); (case side1 => exact zk_ (Kd.C_below HR0_0.out HB.out)); (case side2 => exact HC0_0.out); (case side3 => exact zk_ (Kd.C_below HR0_1.out HB.out)); (case side4 => exact HC0_1.out); rintro e w14 ⟨rfl, hb⟩; refine ⟨_, rfl, ?_⟩; replace BK855 := za_ BK855 hb; replace BK856 := za_ BK856 hb; replace HB := zA_ (below_step (zw2_ HB GE855 GE856) hb); (try clear hb); have hcz15_0 := zx_ (v := .slice A0_0 l0_0.length c0_0) BK855 0; have hcz15_1 := zx_ (v := .slice A0_1 l0_1.length c0_1) BK855 1; have hfz15_0 := blk_frozen BK855.out 0; have hfz15_1 := blk_frozen BK855.out 1))
  go_meet
  case rel => exact ⟨_, (decide (a1 ≥ (l0_0.length : Int))), z1_, H', ⟨by first | omega | exact Nat.le_refl _⟩, ⟨zb_ BK855⟩, ⟨zb_ BK856⟩, ⟨zw2_ HB GE855 GE856⟩⟩
 case rest =>
  clear HC3
  try clear p2
  try clear c8b0
  try clear hcz10_0
  try clear hcz10_1
  try clear hcz13_0
  try clear hcz13_1
  try clear hcz15_0
  try clear hcz15_1
  try clear hcz17_0
  try clear hcz17_1
  try clear hfz10_0
  try clear hfz10_1
  try clear hfz13_0
  try clear hfz13_1
  try clear hfz15_0
  try clear hfz15_1
  try clear hfz17_0
  try clear hfz17_1
  obtain ⟨kq, x29_2, rfl, HA, HJ2, BK855, BK856, HB⟩ := hcut
  cases kq with
  | zero => exact absurd HA.out (by simp [matm_Sum.j0])
  | succ kj2 =>
   have H := HA.out
   clear HA
   simp only [matm_Sum.j0] at H
   by_cases c19 : x29_2 = true
   ·subst c19
    have H1 : (none) = some (r1, r2, r3) := by rw [if_pos rfl] at H; exact H
    clear H
    have H := H1
    clear H1
    exact zN_ H
   replace c19 := Bool.eq_false_iff.mpr c19
   subst c19
   have H1 := H
   rw [if_neg (show ¬ (false = true) by decide)] at H1
   clear H
   have H := H1
   clear H1
   obtain ⟨y858, hy858⟩ : ∃ y_ : List Int, y_ = (([] : List Int)) := ⟨_, rfl⟩
   replace H : (if 0 ≤ a1 then (if a1 ≤ (l0_0.length : Int) then (if y858.length + (l0_0.take (a1 : Int).toNat).length < 17592186044416 then ((some (y858 ++ (l0_0.take (a1 : Int).toNat) : List Int)).bind fun y862 => (if 0 ≤ (wrap64 (a1 + 1)) then (if (wrap64 (a1 + 1)) ≤ (l0_0.length : Int) then (if y862.length + (l0_0.drop ((wrap64 (a1 + 1)) : Int).toNat).length < 17592186044416 then ((some (y862 ++ (l0_0.drop ((wrap64 (a1 + 1)) : Int).toNat) : List Int)).bind fun y866 => ((shape_Size.f kj2 y866).bind fun t869 => (if 0 ≤ t869 then (if (t869 : Int).toNat ≤ 17592186044416 then ((shape_Strides.f kj2 l0_0).bind fun t873 => (if a1 < (t873.length : Int) then (matm_Sum.l0 kj2 a1 y866 (List.replicate (t869 : Int).toNat z292) (rd t873 a1) l0_1 (l0_1.length : Int) 0 l0_0 l0_1) else (none))) else (none)) else (none)))) else (none)) else (none)) else (none))) else (none)) else (none)) else (none)) = some (r1, r2, r3) := by first | (rw [hy858]; with_reducible exact H) | (have H2_ := (Option.bind_some _ _).symm.trans H; rw [hy858]; with_reducible exact H2_) | (have H2_ := (Option.bind_some _ _).symm.trans H; with_reducible exact H2_) | with_reducible exact H | (rw [hy858]; exact H) | exact H
   have Ny858 := zA_ hy858
   clear hy858
   by_cases c20 : 0 ≤ a1
   rotate_left
   ·rw [if_neg c20] at H
    exact zN_ H
   rw [if_pos c20] at H
   have c20b0 := eq_true c20
   have c20b1 : decide (0 ≤ a1) = true := decide_eq_true c20
   clear c20
   by_cases c21 : a1 ≤ (l0_0.length : Int)
   rotate_left
   ·rw [if_neg c21] at H
    exact zN_ H
   rw [if_pos c21] at H
   have c21b0 := eq_true c21
   have c21b1 : decide (a1 ≤ (l0_0.length : Int)) = true := decide_eq_true c21
   clear c21
   by_cases c22 : y858.length + (l0_0.take (a1 : Int).toNat).length < 17592186044416
   rotate_left
   ·rw [if_neg c22] at H
    exact zN_ H
   rw [if_pos c22] at H
   have LMc22 := zA_ c22
   clear c22
   obtain ⟨y862, hy862⟩ : ∃ y_ : List Int, y_ = (y858 ++ (l0_0.take (a1 : Int).toNat)) := ⟨_, rfl⟩
   replace H : (if 0 ≤ (wrap64 (a1 + 1)) then (if (wrap64 (a1 + 1)) ≤ (l0_0.length : Int) then (if y862.length + (l0_0.drop ((wrap64 (a1 + 1)) : Int).toNat).length < 17592186044416 then ((some (y862 ++ (l0_0.drop ((wrap64 (a1 + 1)) : Int).toNat) : List Int)).bind fun y866 => ((shape_Size.f kj2 y866).bind fun t869 => (if 0 ≤ t869 then (if (t869 : Int).toNat ≤ 17592186044416 then ((shape_Strides.f kj2 l0_0).bind fun t873 => (if a1 < (t873.length : Int) then (matm_Sum.l0 kj2 a1 y866 (List.replicate (t869 : Int).toNat z292) (rd t873 a1) l0_1 (l0_1.length : Int) 0 l0_0 l0_1) else (none))) else (none)) else (none)))) else (none)) else (none)) else (none)) = some (r1, r2, r3) := by first | (rw [hy862]; with_reducible exact H) | (have H2_ := (Option.bind_some _ _).symm.trans H; rw [hy862]; with_reducible exact H2_) | (have H2_ := (Option.bind_some _ _).symm.trans H; with_reducible exact H2_) | with_reducible exact H | (rw [hy862]; exact H) | exact H
   have Ny862 := zA_ hy862
   clear hy862
   obtain ⟨ji23, hji23⟩ : ∃ j_ : Int, (wrap64 (a1 + 1)) = j_ := ⟨_, rfl⟩
   replace H : (if 0 ≤ (ji23) then (if (ji23) ≤ (l0_0.length : Int) then (if y862.length + (l0_0.drop ((ji23) : Int).toNat).length < 17592186044416 then ((some (y862 ++ (l0_0.drop ((ji23) : Int).toNat) : List Int)).bind fun y866 => ((shape_Size.f kj2 y866).bind fun t869 => (if 0 ≤ t869 then (if (t869 : Int).toNat ≤ 17592186044416 then ((shape_Strides.f kj2 l0_0).bind fun t873 => (if a1 < (t873.length : Int) then (matm_Sum.l0 kj2 a1 y866 (List.replicate (t869 : Int).toNat z292) (rd t873 a1) l0_1 (l0_1.length : Int) 0 l0_0 l0_1) else (none))) else (none)) else (none)))) else (none)) else (none)) else (none)) = some (r1, r2, r3) := by first | (rw [hji23] at H; exact H) | (simp only [hji23] at H ⊢; exact H)
   have hji23w : (IntKind.i64.wrap (a1 + 1)) = ji23 := (i64_w _).trans hji23
   by_cases c24 : 0 ≤ (ji23)
   rotate_left
   ·rw [if_neg c24] at H
    exact zN_ H
   rw [if_pos c24] at H
   have c24b0 := eq_true c24
   have c24b1 : decide (0 ≤ (ji23)) = true := decide_eq_true c24
   clear c24
   by_cases c25 : (ji23) ≤ (l0_0.length : Int)
   rotate_left
   ·rw [if_neg c25] at H
    exact zN_ H
   rw [if_pos c25] at H
   have c25b0 := eq_true c25
   have c25b1 : decide ((ji23) ≤ (l0_0.length : Int)) = true := decide_eq_true c25
   clear c25
   by_cases c26 : y862.length + (l0_0.drop ((ji23) : Int).toNat).length < 17592186044416
   rotate_left
   ·rw [if_neg c26] at H
    exact zN_ H
   rw [if_pos c26] at H
   have LMc26 := zA_ c26
   clear c26
   obtain ⟨y866, hy866⟩ : ∃ y_ : List Int, y_ = (y862 ++ (l0_0.drop ((ji23) : Int).toNat)) := ⟨_, rfl⟩
   replace H : ((shape_Size.f kj2 y866).bind fun t869 => (if 0 ≤ t869 then (if (t869 : Int).toNat ≤ 17592186044416 then ((shape_Strides.f kj2 l0_0).bind fun t873 => (if a1 < (t873.length : Int) then (matm_Sum.l0 kj2 a1 y866 (List.replicate (t869 : Int).toNat z292) (rd t873 a1) l0_1 (l0_1.length : Int) 0 l0_0 l0_1) else (none))) else (none)) else (none))) = some (r1, r2, r3) := by first | (rw [hy866]; with_reducible exact H) | (have H2_ := (Option.bind_some _ _).symm.trans H; rw [hy866]; with_reducible exact H2_) | (have H2_ := (Option.bind_some _ _).symm.trans H; with_reducible exact H2_) | with_reducible exact H | (rw [hy866]; exact H) | exact H
   have Ny866 := zA_ hy866
   clear hy866
   replace H := zO_ H
   obtain ⟨t869, A270, H⟩ := H
   (try dsimp only at H)
   have A27 := zA_ A270
   clear A270
   by_cases c28 : 0 ≤ t869
   rotate_left
   ·rw [if_neg c28] at H
    exact zN_ H
   rw [if_pos c28] at H
   have c28b0 := eq_true c28
   have c28b1 : decide (0 ≤ t869) = true := decide_eq_true c28
   clear c28
   by_cases c29 : (t869 : Int).toNat ≤ 17592186044416
   rotate_left
   ·rw [if_neg c29] at H
    exact zN_ H
   rw [if_pos c29] at H
   have c29b0 := eq_true c29
   have c29b1 : decide ((t869 : Int).toNat ≤ 17592186044416) = true := decide_eq_true c29
   clear c29
   obtain ⟨y870, hy870⟩ : ∃ y_ : List (S292), y_ = (List.replicate (t869 : Int).toNat z292) := ⟨_, rfl⟩
   replace H : ((shape_Strides.f kj2 l0_0).bind fun t873 => (if a1 < (t873.length : Int) then (matm_Sum.l0 kj2 a1 y866 y870 (rd t873 a1) l0_1 (l0_1.length : Int) 0 l0_0 l0_1) else (none))) = some (r1, r2, r3) := by first | (rw [hy870]; with_reducible exact H) | (have H2_ := (Option.bind_some _ _).symm.trans H; rw [hy870]; with_reducible exact H2_) | (have H2_ := (Option.bind_some _ _).symm.trans H; with_reducible exact H2_) | with_reducible exact H | (rw [hy870]; exact H) | exact H
   have Ny870 := zA_ hy870
   clear hy870
   replace H := zO_ H
   obtain ⟨t873, A300, H⟩ := H
   (try dsimp only at H)
   have A30 := zA_ A300
   clear A300
   by_cases c31 : a1 < (t873.length : Int)
   rotate_left
   ·rw [if_neg c31] at H
    exact zN_ H
   rw [if_pos c31] at H
   have c31b0 : decide (a1 < (t873.length : Int)) = true := decide_eq_true c31
   clear c31
   have H' := zA_ H
   clear H
   try go_wp2
   replace BK855 := zA_ (blk_drew BK855.out)
   replace BK856 := zA_ (blk_drew BK856.out)
   replace HB := zA_ (below_drew1 HB.out)
   obtain ⟨i033, hi033, _, hsz33, _⟩ := info_parts info3
   obtain ⟨hcut33, hA33, hC33⟩ := print_take_of (P := Tryz.prog) (Value.int .i64) 0 32 3 .i64 Tryz.underlying32 hi033 hsz33 A0_0 c0_0 l0_0 a1 (zD_) (zD_) HC0_0.out
   have HR861 := zA_ (Kd.C_of_reads (h1 := fun _ => rfl) (hA33 _ (Kd.reads_of_C HR0_0.out)))
   have HC861 := zA_ hC33
   clear hA33 hC33 hi033 hsz33
   obtain ⟨i034, hi034, _, hsz34, _⟩ := info_parts info3
   obtain ⟨A34, hcut34, hA34, hC34⟩ := print_drop_of (P := Tryz.prog) (Value.int .i64) 0 32 3 .i64 Tryz.underlying32 hi034 hsz34 A0_0 c0_0 l0_0 (ji23) (zD_) (zD_) HC0_0.out
   have HR865 := zA_ (Kd.C_of_reads (h1 := fun _ => rfl) (hA34 _ (Kd.reads_of_C HR0_0.out)))
   have HC865 := zA_ hC34
   clear hA34 hC34 hi034 hsz34
   refine start_ (n := 13) (S := fun w' => w'.cell? ⟨gb855, 0, none⟩ = some (.slice A0_0 l0_0.length c0_0) ∧ w'.cell? ⟨gb855, 1, none⟩ = some (.slice A0_1 l0_1.length c0_1)) (ds := []) #[false, false, false, false, false, false, false, false, false, false, false, false, false] (by kernel_rfl) rfl rfl ⟨(blk_cell BK855.out 0).trans rfl, (blk_cell BK855.out 1).trans rfl⟩ (fun hHeld => ?_); refine with_tabW matm_Sum.tab3 matm_Sum.bits3 (fun HT_ HW_ => ?_)
   generalize wc.drew = w32 at BK855 BK856 HB HR861 HR865 hHeld ⊢
   refine yp_ ?_ 1 32
   refine yp_ ?_ 3 34
   refine yp_ ?_ 6 37
   refine yp_ ?_ 8 39
   refine yp_ ?_ 9 40
   refine yt2_ ?_ 2 33
   refine yp_ ?_ 4 35
   refine yt2_ ?_ 7 38
   refine yp_ ?_ 10 41
   refine yo_ 0 (some 31) (fun K hK => ?_)
   refine Kd.R_lit_step (Kd.int .i64) _ 3 ?hg (N := 31) ?hd (xs := ([] : List Int)) (inner := []) (ok := fun _ => True) (okp := fun _ => True) ?hr ?hp (fun _ hk => hk) trivial (Below.refl _ _) (Nat.le_refl _) (by simp) ?_; (case hd => rfl); (case hg => rfl); (case hr => first | (go_simp; done) | (go_simp; rfl)); (case hp => exact (Reps.none _ _))
   intro v859 w35 ho36 hb hg_ hnew_
   clear hg_ hnew_
   (first | rw [← Ny858.out] at ho36 | (simp only [Int.reduceToNat] at ho36; rw [← Ny858.out] at ho36))
   have HO860 := zA_ (Kd.R_lower ho36 (below_size (zw2_ HB GE855 GE856)))
   replace BK855 := za_ BK855 hb
   replace BK856 := za_ BK856 hb
   replace HB := zA_ (below_step (zw2_ HB GE855 GE856) hb)
   clear hb ho36
   refine hK.out _ _ ⟨zx_ BK855 0, zx_ BK855 1⟩ (fun hHeld => ?_)
   clear hK K
   refine zq_ (some 31) (h := ?_)
   refine yo_ 5 (some 36) (fun K hK => ?_)
   refine Kd.R_append_rows_step (Kd.int .i64) (w0 := w) w.heap.size (by rfl) (.tmp 31) (.tmp 35) 32 3 (.int .i64 0) 8 rfl Tryz.underlying32 info3 rfl (by decide) (by omega) v859 y858 (l0_0.take (a1 : Int).toNat) _ _ _ (fun _ => True) (fun _ => False) rfl rfl ?aO ?aR (fun _ _ h => h) (fun _ h => h.elim) ?aF ?aB ?aS ?aL ?_
   (case aR => (have e_ : (l0_0.take (a1 : Int).toNat).length = a1.toNat := (by rw [List.length_take]; have h_ : (a1 : Int) ≤ (l0_0.length : Int) := zD_; omega)); have h_ := zk_ (Kd.C_below HR861.out HB.out); rw [e_] at h_; exact h_)
   (case aB => exact (zw2_ HB GE855 GE856))
   (case aF => exact (fun _ _ => trivial))
   (case aO => exact (zr_ HO860.out))
   (case aS => exact (below_size (zw2_ HB GE855 GE856)))
   (case aL => have := LMc22.out; have hlx_ := (show (l0_0.take (a1 : Int).toNat).length = a1.toNat from (by rw [List.length_take]; have h_ : (a1 : Int) ≤ (l0_0.length : Int) := zD_; omega)); omega)
   intro v863 w37 ho hb hg hat
   rw [← Ny862.out] at ho
   replace BK855 := zA_ (zh_ BK855 hg (Kd.R_ne HO860.out BK855.out (by decide)))
   replace BK856 := zA_ (zh_ BK856 hg (Kd.R_ne HO860.out BK856.out (by decide)))
   replace HB := zA_ (hb)
   have HO864 := zA_ (ho)
   clear HO860
   clear ho hb hg hat
   refine hK.out _ _ ⟨zx_ BK855 0, zx_ BK855 1⟩ (fun hHeld => ?_)
   clear hK K
   refine zq_ (some 36) (h := ?_)
   refine yo_ 11 (some 42) (fun K hK => ?_)
   refine Kd.R_append_rows_step (Kd.int .i64) (w0 := w) w.heap.size (by rfl) (.tmp 36) (.tmp 41) 32 3 (.int .i64 0) 8 rfl Tryz.underlying32 info3 rfl (by decide) (by omega) v863 y862 (l0_0.drop ((ji23) : Int).toNat) _ _ _ (fun _ => True) (fun _ => False) rfl rfl ?aO ?aR (fun _ _ h => h) (fun _ h => h.elim) ?aF ?aB ?aS ?aL ?_
   (case aR => first | (rw [← show (l0_0.drop ((ji23) : Int).toNat).length = (l0_0.length - (ji23).toNat) from List.length_drop]; exact zk_ (Kd.C_below HR865.out HB.out)) | (exact zk_ (Kd.C_below HR865.out HB.out)))
   (case aB => exact (zw2_ HB GE855 GE856))
   (case aF => exact (fun _ _ => trivial))
   (case aO => exact (zr_ HO864.out))
   (case aS => exact (below_size (zw2_ HB GE855 GE856)))
   (case aL => have := LMc26.out; have hlx_ := (show (l0_0.drop ((ji23) : Int).toNat).length = (l0_0.length - (ji23).toNat) from List.length_drop); omega)
   intro v867 w38 ho hb hg hat
   rw [← Ny866.out] at ho
   replace BK855 := zA_ (zh_ BK855 hg (Kd.R_ne HO864.out BK855.out (by decide)))
   replace BK856 := zA_ (zh_ BK856 hg (Kd.R_ne HO864.out BK856.out (by decide)))
   replace HB := zA_ (hb)
   have HO868 := zA_ (ho)
   clear HO864
   clear ho hb hg hat
   refine hK.out _ _ ⟨zx_ BK855 0, zx_ BK855 1⟩ (fun hHeld => ?_)
   clear hK K
   refine zq_ (some 42) (h := ?_)
   refine yp_ ?_ 12 6
   refine done_ (done_of HT_.out (by kernel_rfl)) ?_
   obtain ⟨Ao39, co39, eo39⟩ := Kd.R_slice HO868.out
   subst eo39
   try go_wp2_with (first | ((with_reducible refine gate_callee (f := 305) rfl ?_); refine zg_ (some 44) Tryz.func305 #[.slice Ao39 y866.length co39] (h := ?_); (with_reducible refine (shape_Size.calls kj2 _ _ y866 t869 _ ?side1 ?side2 A27.out).mono ?_); (case side1 => exact zk_ ((Kd.R_reads' HO868.out).2.2)); (case side2 => exact (Kd.R_reads' HO868.out).2.1); rintro e w' ⟨rfl, ⟨nd, rfl⟩⟩; refine ⟨_, rfl, ?_⟩) | ((with_reducible refine gate_dst (N := 45) rfl ?_); (try (refine gate_guard (by rfl) ?_; dsimp only)); refine Kd.R_make k292 _ 292 rfl (N := 45) rfl 218 _ _ rfl t869 rfl rfl Tryz.underlying218 (.agg #[(.int .i64 0), (.int .u64 0)]) 16 info292 rfl (by decide) (by omega) z292 (ok := fun _ => True) (okp := fun _ => True) (k292_mkM _ _ _ z292 ) (fun _ hk => hk) trivial (zD_) (Nat.le_trans (Nat.mul_le_mul_right _ (zD_ : t869.toNat ≤ 17592186044416)) (by omega)) (Below.refl _ _) (Nat.le_refl _) ?_; intro v871 w40 ho41 hb hg_ hnew_; clear hg_ hnew_; (first | rw [← Ny870.out] at ho41 | (simp only [Int.reduceToNat] at ho41; rw [← Ny870.out] at ho41)); replace HO868 := zy_ HO868 hb; have HO872 := zA_ (Kd.R_lower ho41 (below_size (zw2_ HB GE855 GE856))); replace BK855 := za_ BK855 hb; replace BK856 := za_ BK856 hb; replace HB := zA_ (below_step (zw2_ HB GE855 GE856) hb); clear hb ho41; have hnb42 := NB855_856.out; have hnc42 := NB856_855.out; have hcz43_0 := zx_ (v := .slice A0_0 l0_0.length c0_0) BK855 0; have hcz43_1 := zx_ (v := .slice A0_1 l0_1.length c0_1) BK855 1; have hfz43_0 := blk_frozen BK855.out 0; have hfz43_1 := blk_frozen BK855.out 1) | ((with_reducible refine gate_callee (f := 393) rfl ?_); refine zg_ (some 48) Tryz.func393 #[.slice A0_0 l0_0.length c0_0] (h := ?_); (with_reducible refine (shape_Strides.calls kj2 _ _ l0_0 t873 _ ?side1 ?side2 A30.out).mono ?_); (case side1 => exact zk_ (Kd.C_below HR0_0.out HB.out)); (case side2 => exact HC0_0.out); rintro e w44 ⟨v874, rfl, ho0, hb⟩; refine ⟨_, rfl, ?_⟩; replace HO872 := zy_ HO872 hb; have HO875 := zA_ (Kd.R_lower (Kd.R_new' ho0 (Kd.R_lt (zr_ HO868.out))) (below_size (zw2_ HB GE855 GE856))); replace HO868 := ze_ HO868 ho0 hb; replace BK855 := za_ BK855 hb; replace BK856 := za_ BK856 hb; replace HB := zA_ (below_step (zw2_ HB GE855 GE856) hb); (try clear hb); (try clear ho0); obtain ⟨Ao45, co45, eo45⟩ := Kd.R_slice HO875.out; subst eo45; have p876 : 0 ≤ (a1 : Int) := zD_; have q876 : a1 < (t873.length : Int) := zD_; obtain ⟨ad876, e876, hx876_0⟩ := Kd.at_int (Kd.R_reads' HO875.out).2.2 a1 p876 q876; cases e876; replace p876 := eq_true p876; replace q876 := eq_true q876; have hcz46_0 := zx_ (v := .slice A0_0 l0_0.length c0_0) BK855 0; have hcz46_1 := zx_ (v := .slice A0_1 l0_1.length c0_1) BK855 1; have hfz46_0 := blk_frozen BK855.out 0; have hfz46_1 := blk_frozen BK855.out 1))
   go_loopg [55] kj2 (fun kq v55 w' => ∃ (x7_2 : List (S292)) (x55_2 : Int), v55 = .int .i64 x55_2 ∧ Aside0 (matm_Sum.l0 kq a1 y866 x7_2 (rd t873 a1) l0_1 (l0_1.length : Int) x55_2 l0_0 l0_1 = some (r1, r2, r3)) ∧ Aside0 (kq ≤ kj2) ∧ Aside0 (Kd.R (Kd.int .i64) 3 w' w.heap.size (fun _ => True) (.slice Ao39 y866.length co39) y866) ∧ Aside0 (Kd.R k292 292 w' w.heap.size (fun _ => True) v871 x7_2) ∧ Aside0 (w'.heap[gb855]? = some (.cells #[(.slice A0_0 l0_0.length c0_0), (.slice A0_1 l0_1.length c0_1)] 273 (0, 0))) ∧ Aside0 (w'.heap[gb856]? = some (.cells #[(.slice none 0 0), (.slice none 0 0)] 273 (0, 0))) ∧ Aside0 (Below w.heap.size w w'))
   case atStart => exact ⟨(y870), (0), z1_, H', ⟨Nat.le_refl _⟩, ⟨zr_ (Kd.R_mono HO868.out (fun _ hk => trivial))⟩, ⟨zr_ HO872.out⟩, ⟨zb_ BK855⟩, ⟨zb_ BK856⟩, ⟨zw2_ HB GE855 GE856⟩⟩
   case round =>
    clear H'
    try clear p2
    try clear p6
    try clear c8b0
    try clear p8
    try clear q8
    try clear hx8
    try clear c20b0
    try clear c20b1
    try clear c21b0
    try clear c21b1
    try clear c24b0
    try clear c24b1
    try clear c25b0
    try clear c25b1
    try clear c28b0
    try clear c28b1
    try clear c29b0
    try clear c29b1
    try clear c31b0
    try clear hcz10_0
    try clear hcz10_1
    try clear hcz13_0
    try clear hcz13_1
    try clear hcz15_0
    try clear hcz15_1
    try clear hcz17_0
    try clear hcz17_1
    try clear hcz43_0
    try clear hcz43_1
    try clear hcz46_0
    try clear hcz46_1
    try clear hfz10_0
    try clear hfz10_1
    try clear hfz13_0
    try clear hfz13_1
    try clear hfz15_0
    try clear hfz15_1
    try clear hfz17_0
    try clear hfz17_1
    try clear hfz43_0
    try clear hfz43_1
    try clear hfz46_0
    try clear hfz46_1
    try clear hx876_0
    try clear p2
    try clear p876
    try clear q876
    obtain ⟨x7_2, x55_2, rfl, HA, HK2, HO_6, HO_7, BK855, BK856, HB⟩ := hrel
    cases gk with
    | zero => exact absurd HA.out (by simp [matm_Sum.l0])
    | succ k2 =>
     have H := HA.out
     clear HA
     simp only [matm_Sum.l0] at H
     by_cases c47 : x55_2 < (l0_1.length : Int)
     ·rw [if_pos c47] at H
      have c47b0 : decide (x55_2 < (l0_1.length : Int)) = true := decide_eq_true c47
      clear c47
      by_cases c48 : 0 ≤ x55_2
      rotate_left
      ·rw [if_neg c48] at H
       exact zN_ H
      rw [if_pos c48] at H
      have c48b0 : decide (0 ≤ x55_2) = true := decide_eq_true c48
      clear c48
      by_cases c49 : x55_2 < (l0_1.length : Int)
      rotate_left
      ·rw [if_neg c49] at H
       exact zN_ H
      rw [if_pos c49] at H
      have c49b0 : decide (x55_2 < (l0_1.length : Int)) = true := decide_eq_true c49
      clear c49
      by_cases c50 : 0 ≤ a1
      rotate_left
      ·rw [if_neg c50] at H
       exact zN_ H
      rw [if_pos c50] at H
      have c50b0 : decide (0 ≤ a1) = true := decide_eq_true c50
      clear c50
      by_cases c51 : a1 < (l0_0.length : Int)
      rotate_left
      ·rw [if_neg c51] at H
       exact zN_ H
      rw [if_pos c51] at H
      have c51b0 : decide (a1 < (l0_0.length : Int)) = true := decide_eq_true c51
      clear c51
      by_cases c52 : (wrap64 ((rd t873 a1) * (rd l0_0 a1))) = 0
      ·rw [if_pos c52] at H
       exact zN_ H
      rw [if_neg c52] at H
      have c52b0 : ((wrap64 ((rd t873 a1) * (rd l0_0 a1))) == 0) = false := beq_eq_false_iff_ne.mpr c52
      have c52b1 : ((wrap64 ((rd t873 a1) * (rd l0_0 a1))) != 0) = true := bne_iff_ne.mpr c52
      by_cases c53 : (rd t873 a1) = 0
      ·rw [if_pos c53] at H
       exact zN_ H
      rw [if_neg c53] at H
      have c53b0 : ((rd t873 a1) == 0) = false := beq_eq_false_iff_ne.mpr c53
      have c53b1 : ((rd t873 a1) != 0) = true := bne_iff_ne.mpr c53
      obtain ⟨ji54, hji54⟩ : ∃ j_ : Int, (wrap64 ((wrap64 ((wrap64 (Int.tdiv x55_2 (wrap64 ((rd t873 a1) * (rd l0_0 a1))))) * (rd t873 a1))) + (Int.tmod x55_2 (rd t873 a1)))) = j_ := ⟨_, rfl⟩
      replace H : (if 0 ≤ (ji54) then (if (ji54) < (x7_2.length : Int) then ((wide_Of.f (rd l0_1 x55_2)).bind fun bt880 => ((wide_Add.f ((rd_T292 x7_2 (ji54)).f0) ((rd_T292 x7_2 (ji54)).f1) bt880.1 bt880.2).bind fun bt882 => (matm_Sum.l0 k2 a1 y866 (x7_2.set ((ji54) : Int).toNat (⟨bt882.1, bt882.2⟩ : S292)) (rd t873 a1) l0_1 (l0_1.length : Int) (wrap64 (x55_2 + 1)) l0_0 l0_1))) else (none)) else (none)) = some (r1, r2, r3) := by first | (rw [hji54] at H; exact H) | (simp only [hji54] at H ⊢; exact H)
      have hji54w : (IntKind.i64.wrap ((wrap64 ((wrap64 (Int.tdiv x55_2 (wrap64 ((rd t873 a1) * (rd l0_0 a1))))) * (rd t873 a1))) + (Int.tmod x55_2 (rd t873 a1)))) = ji54 := (i64_w _).trans hji54
      by_cases c55 : 0 ≤ (ji54)
      rotate_left
      ·rw [if_neg c55] at H
       exact zN_ H
      rw [if_pos c55] at H
      have c55b0 : decide (0 ≤ (ji54)) = true := decide_eq_true c55
      clear c55
      by_cases c56 : (ji54) < (x7_2.length : Int)
      rotate_left
      ·rw [if_neg c56] at H
       exact zN_ H
      rw [if_pos c56] at H
      have c56b0 : decide ((ji54) < (x7_2.length : Int)) = true := decide_eq_true c56
      clear c56
      replace H := zO_ H
      obtain ⟨⟨t880, t881⟩, A570, H⟩ := H
      (try dsimp only at H)
      have A57 := zA_ A570
      clear A570
      replace H := zO_ H
      obtain ⟨⟨t882, t883⟩, A580, H⟩ := H
      (try dsimp only at H)
      have A58 := zA_ A580
      clear A580
      obtain ⟨y884, hy884⟩ : ∃ y_ : List (S292), y_ = (x7_2.set ((ji54) : Int).toNat (⟨t882, t883⟩ : S292)) := ⟨_, rfl⟩
      replace H : (matm_Sum.l0 k2 a1 y866 y884 (rd t873 a1) l0_1 (l0_1.length : Int) (wrap64 (x55_2 + 1)) l0_0 l0_1) = some (r1, r2, r3) := by first | (rw [hy884]; with_reducible exact H) | (have H2_ := (Option.bind_some _ _).symm.trans H; rw [hy884]; with_reducible exact H2_) | (have H2_ := (Option.bind_some _ _).symm.trans H; with_reducible exact H2_) | with_reducible exact H | (rw [hy884]; exact H) | exact H
      have Ny884 := zA_ hy884
      clear hy884
      have H' := zA_ H
      clear H
      have p877 : 0 ≤ (x55_2 : Int) := zD_
      have q877 : x55_2 < (l0_1.length : Int) := zD_
      obtain ⟨ad877, e877, hx877_0⟩ := Kd.at_int HR0_1.out x55_2 p877 q877
      cases e877
      replace hx877_0 := (HB.out.cell (World.block_lt_of_cell? w _ hx877_0)).trans hx877_0
      replace p877 := eq_true p877
      replace q877 := eq_true q877
      try go_wp2
      replace HO_6 := zA_ (Kd.R_drew HO_6.out)
      replace HO_7 := zA_ (Kd.R_drew HO_7.out)
      replace BK855 := zA_ (blk_drew BK855.out)
      replace BK856 := zA_ (blk_drew BK856.out)
      replace HB := zA_ (below_drew1 HB.out)
      have p878 : 0 ≤ (a1 : Int) := zD_
      have q878 : a1 < (l0_0.length : Int) := zD_
      obtain ⟨ad878, e878, hx878_0⟩ := Kd.at_int HR0_0.out a1 p878 q878
      have hw878_0 := hx878_0
      cases e878
      replace hx878_0 := (HB.out.cell (World.block_lt_of_cell? w _ hx878_0)).trans hx878_0
      replace p878 := eq_true p878
      replace q878 := eq_true q878
      refine start_ (n := 16) (S := fun w' => w'.cell? ⟨gb855, 0, none⟩ = some (.slice (some ad878) l0_0.length c0_0) ∧ w'.cell? ⟨gb855, 1, none⟩ = some (.slice (some ad877) l0_1.length c0_1) ∧ w'.cell? (ad878.add (a1).toNat) = some (.int .i64 (rd l0_0 a1))) (ds := []) #[false, false, false, false, false, false, false, false, false, false, false, false, false, false, false, false] (by kernel_rfl) rfl rfl ⟨(blk_cell BK855.out 0).trans rfl, (blk_cell BK855.out 1).trans rfl, ((HB.out.cell (World.block_lt_of_cell? w _ hw878_0)).trans hw878_0)⟩ (fun hHeld => ?_); refine with_tabW matm_Sum.tab9 matm_Sum.bits9 (fun HT_ HW_ => ?_)
      generalize wr.drew = w60 at HO_6 HO_7 BK855 BK856 HB hx878_0 hHeld ⊢
      refine yp_ ?_ 0 60
      refine yp_ ?_ 1 61
      refine yp_ ?_ 2 62
      refine yp_ ?_ 4 64
      refine yp_ ?_ 9 69
      refine yp_ ?_ 11 71
      refine yp_ ?_ 12 72
      refine yp_ ?_ 13 73
      refine yt3_ ?_ 3 63
      refine yp_ ?_ 5 65
      refine yt3_ ?_ 6 66
      refine yp_ ?_ 7 67
      refine yp_ ?_ 8 68
      refine yp_ ?_ 10 70
      refine yp_ ?_ 14 74
      refine yp_ ?_ 15 11
      refine done_ (done_of HT_.out (by kernel_rfl)) ?_
      try go_wp2
      replace HO_6 := zA_ (Kd.R_drew HO_6.out)
      replace HO_7 := zA_ (Kd.R_drew HO_7.out)
      replace BK855 := zA_ (blk_drew BK855.out)
      replace BK856 := zA_ (blk_drew BK856.out)
      replace HB := zA_ (below_drew1 HB.out)
      obtain ⟨Ao62, co62, eo62⟩ := Kd.R_slice HO_7.out
      (first | subst eo62 | (injection eo62 with f1_ f2_ f3_; have f4_ := f1_.symm; have f5_ := f3_.symm; clear f1_ f2_ f3_; subst f4_; subst f5_))
      have p879 : 0 ≤ ((ji54) : Int) := zD_
      have q879 : (ji54) < (x7_2.length : Int) := zD_
      obtain ⟨ad879, e879, hx879_0, hx879_1⟩ := at_T292 (Kd.R_reads' HO_7.out).2.2 (ji54) p879 q879
      cases e879
      replace p879 := eq_true p879
      replace q879 := eq_true q879
      refine start_ (n := 11) (S := fun w' => w'.cell? (ad879.add (((ji54)).toNat * 2)) = some (.int .i64 ((rd_T292 x7_2 (ji54)).f0)) ∧ w'.cell? ⟨(ad879.add (((ji54)).toNat * 2)).block, (ad879.add (((ji54)).toNat * 2)).off + 1, none⟩ = some (.int .u64 ((rd_T292 x7_2 (ji54)).f1))) (ds := [10]) #[false, false, false, false, false, false, false, false, false, false, false] (by kernel_rfl) rfl rfl ⟨hx879_0, hx879_1⟩ (fun hHeld => ?_); refine with_tabW matm_Sum.tab10 matm_Sum.bits10 (fun HT_ HW_ => ?_)
      generalize w60.drew = w61 at HO_6 HO_7 BK855 BK856 HB hx879_0 hx879_1 hHeld ⊢
      refine yp_ ?_ 0 75
      refine yp_ ?_ 1 76
      refine yp_ ?_ 2 77
      refine yp_ ?_ 3 78
      refine yp_ ?_ 4 79
      refine yp_ ?_ 6 81
      refine yt2_ ?_ 5 80
      refine yo_ 7 (some 82) (fun K hK => ?_)
      refine yg_ Tryz.func348 #[.int .i64 (rd l0_1 x55_2)] ?_
      with_reducible refine (wide_Of.calls (rd l0_1 x55_2) t880 t881 _ A57.out).mono ?_
      rintro e w63 ⟨rfl, hb⟩
      have HS0_ := (hb.cell (World.block_lt_of_cell? _ _ (hHeld.1))).trans (hHeld.1)
      have HS1_ := (hb.cell (World.block_lt_of_cell? _ _ (hHeld.2))).trans (hHeld.2)
      refine ⟨_, rfl, ?_⟩
      replace HO_6 := zy_ HO_6 hb
      replace HO_7 := zy_ HO_7 hb
      replace BK855 := za_ BK855 hb
      replace BK856 := za_ BK856 hb
      replace HB := zA_ (below_step (zw2_ HB GE855 GE856) hb)
      (try clear hb)
      (try clear hb2)
      (try clear hk)
      (try clear hi)
      refine hK.out _ _ ⟨HS0_, HS1_⟩ (fun hHeld => ?_)
      clear hK K
      refine zq_ (some 82) (h := ?_)
      refine yo_ 8 (some 83) (fun K hK => ?_)
      refine goes_ Tryz.func328 (by kernel_rfl) rfl #[.agg #[.int .i64 ((rd_T292 x7_2 (ji54)).f0), .int .u64 ((rd_T292 x7_2 (ji54)).f1)], .agg #[.int .i64 t880, .int .u64 t881]] (by rfl) rfl rfl (by (try simp only [List.map_toArray, List.map_cons, List.map_nil]); first | done | (simp only [hji54]; rfl) | rfl | (simp only [List.length_drop, List.length_take]; rfl)) ?_
      with_reducible refine (wide_Add.calls ((rd_T292 x7_2 (ji54)).f0) ((rd_T292 x7_2 (ji54)).f1) t880 t881 t882 t883 _ A58.out).mono ?_
      rintro e w64 ⟨rfl, hb⟩
      have HS0_ := (hb.cell (World.block_lt_of_cell? _ _ (hHeld.1))).trans (hHeld.1)
      have HS1_ := (hb.cell (World.block_lt_of_cell? _ _ (hHeld.2))).trans (hHeld.2)
      refine ⟨_, rfl, ?_⟩
      replace HO_6 := zy_ HO_6 hb
      replace HO_7 := zy_ HO_7 hb
      replace BK855 := za_ BK855 hb
      replace BK856 := za_ BK856 hb
      replace HB := zA_ (below_step (zw2_ HB GE855 GE856) hb)
      (try clear hb)
      (try clear hb2)
      (try clear hk)
      (try clear hi)
      have p59 : 0 ≤ ((ji54) : Int) := zD_
      have q59 : ((ji54) : Int) < ((x7_2.length : Int) : Int) := zD_
      obtain ⟨go59, co59, eo59, gb59, gl59, cl59, HG59⟩ := Kd.R_form HO_7.out (by omega)
      (first | cases eo59 | (injection eo59 with ea_ en_ ec_; (first | subst ea_ | (injection ea_ with ea_; subst ea_)); subst ec_; clear en_))
      have GB59 := zA_ gb59
      have GG59 := zA_ HG59
      clear gb59 gl59 HG59
      (first | simp only [add_plain] at hx879_0 | skip)
      (first | simp only [add_plain] at hx879_1 | skip)
      obtain ⟨ce59, hcl59, hM59, hcc59, hfr59⟩ := Kd.R_elem HO_7.out z292 ((ji54) : Int) p59 q59
      obtain rfl := k292_openM hM59
      have hx59_0 : World.cell? _ ⟨go59, ((ji54) : Int).toNat * 2, none⟩ = some (.int .i64 ((rd_T292 x7_2 (ji54)).f0)) := hcc59 0 _ rfl
      have hx59_1 : World.cell? _ ⟨go59, ((ji54) : Int).toNat * 2 + 1, none⟩ = some (.int .u64 ((rd_T292 x7_2 (ji54)).f1)) := hcc59 1 _ rfl
      have hf59_0 : World.frozen? _ ⟨go59, ((ji54) : Int).toNat * 2, none⟩ = false := hfr59 0
      have hf59_1 : World.frozen? _ ⟨go59, ((ji54) : Int).toNat * 2 + 1, none⟩ = false := hfr59 1
      clear hcl59 hcc59 hfr59 hM59
      replace p59 := eq_true p59
      replace q59 := eq_true q59
      obtain ⟨ce65, hcl65, hM65, hcc65, hfr65⟩ := Kd.R_elem HO_7.out z292 ((ji54) : Int) (zD_) (by have h_ : ((ji54) : Int) < ((x7_2.length : Int) : Int) := zD_; first | exact h_ | (have e_ := (Kd.R_reads' HO_7.out).1; omega) | simpa using h_)
      obtain rfl := k292_openM hM65
      have HP65 := (Kd.R_seg HO_7.out ((ji54) : Int) (zD_) (by have h_ : ((ji54) : Int) < ((x7_2.length : Int) : Int) := zD_; first | exact h_ | (have e_ := (Kd.R_reads' HO_7.out).1; omega) | simpa using h_) (seg := [.int .i64 t882, .int .u64 t883]) (j := 0) hcl65 hcc65 (show 2 ≤ 2 from by decide) (x' := (⟨t882, t883⟩ : S292)) (k292_mkM _ _ _ (⟨t882, t883⟩ : S292) ) (fun _ hk => hk)).1
      rw [← Ny884.out] at HP65
      have HQ65 := zA_ HP65
      clear hcl65 hcc65 hfr65 hM65 HP65
      refine hK.out _ _ ⟨HS0_, HS1_⟩ (fun hHeld => ?_)
      clear hK K
      refine zq_ (some 83) (h := ?_)
      refine yp_ ?_ 9 84
      refine yl_ 10 none (fun K hK => ?_)
      refine skip_ (w1 := ?_) (by rfl) rfl ?_ ?_
      rotate_left
      ·go_simp
       rfl
      refine hK.out _ _ ?_
      clear hK K
      refine done_ (done_of HT_.out (by kernel_rfl)) ?_
      try go_wp2
      go_roundg k2
      case measure => have := HJ2.out; have := HK2.out; omega
      case rel => exact ⟨(y884), (wrap64 (x55_2 + 1)), z1_, H', ⟨by have := HJ2.out; have := HK2.out; omega⟩, ⟨zr_ (Kd.R_mono (Kd.R_far (p := ⟨go59, ((ji54) : Int).toNat * 2 + 1, none⟩) (Kd.R_far (p := ⟨go59, ((ji54) : Int).toNat * 2, none⟩) (Kd.R_types HO_6.out GG59.out (by decide)) (fun _ hk => hk.2) (.int .i64 t882)) (fun _ hk => hk.2) (.int .u64 t883)) (fun _ hk => trivial))⟩, ⟨zr_ HQ65.out⟩, ⟨by (with_reducible repeat (first | refine blk_drewN ?_ _ | refine blk_drew ?_ | refine blk_alloc ?_ _)); refine blk_far ?_ (by have h_ := Kd.R_ne HO_7.out BK855.out (by decide); intro e_; exact h_ (by rw [e_]; rfl)) _; (with_reducible repeat (first | refine blk_drewN ?_ _ | refine blk_drew ?_ | refine blk_alloc ?_ _)); refine blk_far ?_ (by have h_ := Kd.R_ne HO_7.out BK855.out (by decide); intro e_; exact h_ (by rw [e_]; rfl)) _; (with_reducible repeat (first | refine blk_drewN ?_ _ | refine blk_drew ?_ | refine blk_alloc ?_ _)); exact BK855.out⟩, ⟨by (with_reducible repeat (first | refine blk_drewN ?_ _ | refine blk_drew ?_ | refine blk_alloc ?_ _)); refine blk_far ?_ (by have h_ := Kd.R_ne HO_7.out BK856.out (by decide); intro e_; exact h_ (by rw [e_]; rfl)) _; (with_reducible repeat (first | refine blk_drewN ?_ _ | refine blk_drew ?_ | refine blk_alloc ?_ _)); refine blk_far ?_ (by have h_ := Kd.R_ne HO_7.out BK856.out (by decide); intro e_; exact h_ (by rw [e_]; rfl)) _; (with_reducible repeat (first | refine blk_drewN ?_ _ | refine blk_drew ?_ | refine blk_alloc ?_ _)); exact BK856.out⟩, ⟨by repeat (first | (with_reducible first | exact HB.out | apply below_alloc | apply pw_below_drewN | apply below_drew1 | refine below_set ?_ GB59.out | refine below_set ?_ GB59.out | refine below_set ?_ GE855.out | refine below_set ?_ GE856.out) | exact HB.out)⟩⟩
     rw [if_neg c47] at H
     have c47b0 : decide (x55_2 < (l0_1.length : Int)) = false := decide_eq_false c47
     clear c47
     replace H := zO_ H
     obtain ⟨⟨t885, t888, t891⟩, A660, H⟩ := H
     replace H : (matm_Sum.l1 k2 x7_2 (x7_2.length : Int) 0 t885 t888) = some (r1, r2, r3) := H
     have A66 := zA_ A660
     clear A660
     have H' := zA_ H
     clear H
     go_wp2_with (first | ((with_reducible refine gate_callee (f := 250) rfl ?_); refine zg_ (some 88) Tryz.func250 #[.slice Ao39 y866.length co39, .int .i64 0] (h := ?_); (with_reducible refine (tens_New.calls k2 _ _ y866 0 t885 t888 t891 _ ?side1 ?side2 A66.out).mono ?_); (case side1 => exact zk_ ((Kd.R_reads' HO_6.out).2.2)); (case side2 => exact (Kd.R_reads' HO_6.out).2.1); rintro e w67 ⟨v886, v889, rfl, ho0, ho1, hb⟩; refine ⟨_, rfl, ?_⟩; replace HO_7 := zy_ HO_7 hb; have HO887 := zA_ (Kd.R_lower (Kd.R_new' ho0 (Kd.R_lt (zr_ HO_6.out))) (below_size (zw2_ HB GE855 GE856))); replace HO_6 := ze_ HO_6 ho0 hb; have HO890 := zA_ (Kd.R_lower ho1 (below_size (zw2_ HB GE855 GE856))); replace BK855 := za_ BK855 hb; replace BK856 := za_ BK856 hb; replace HB := zA_ (below_step (zw2_ HB GE855 GE856) hb); (try clear hb); (try clear ho0); (try clear ho1)) | ((with_reducible refine gate_dst (N := 12) rfl ?_); (try (refine gate_guard (by rfl) ?_; dsimp only)); refine zB_ (#[.slice none 0 0, .slice none 0 0]) 273 ?_; intro gb892 hg w68 hbox hb; replace HO_6 := zy_ HO_6 hb; replace HO_7 := zy_ HO_7 hb; replace HO887 := zy_ HO887 hb; replace HO890 := zy_ HO890 hb; have BK892 := zA_ (hbox); have GW892 := zA_ (zs_ hg (zw2_ HB GE855 GE856)); have GE892 := zA_ (zs_ hg (zw2_ HB GE855 GE856)); replace HB := zA_ (below_step (zw2_ HB GE855 GE856) hb); have NB855_892 := zA_ (zn_ hg BK855); have NB892_855 := zA_ (zm_ hg BK855); replace BK855 := za_ BK855 hb; have NB856_892 := zA_ (zn_ hg BK856); have NB892_856 := zA_ (zm_ hg BK856); replace BK856 := za_ BK856 hb; clear hb hbox hg; obtain ⟨Ao69, co69, eo69⟩ := Kd.R_slice HO887.out; subst eo69; have hnb70 := NB892_855.out; have hnc70 := NB855_892.out; have hnb71 := NB892_856.out; have hnc71 := NB856_892.out; have hcz72_0 := zx_ (v := .slice none 0 0) BK892 0; have hcz72_1 := zx_ (v := .slice none 0 0) BK892 1; have hfz72_0 := blk_frozen BK892.out 0; have hfz72_1 := blk_frozen BK892.out 1; obtain ⟨Ao73, co73, eo73⟩ := Kd.R_slice HO890.out; subst eo73; obtain ⟨Ao74, co74, eo74⟩ := Kd.R_slice HO_7.out; subst eo74))
     go_loopg [93] k2 (fun kq v93 w' => ∃ (x93_3 : Int) (x893001_3 : List Int) (u893001 : Value), v93 = .int .i64 x93_3 ∧ Aside0 (matm_Sum.l1 kq x7_2 (x7_2.length : Int) x93_3 t885 x893001_3 = some (r1, r2, r3)) ∧ Aside0 (kq ≤ k2) ∧ Aside0 (Kd.R k292 292 w' w.heap.size (fun _ => True) (.slice Ao74 x7_2.length co74) x7_2) ∧ Aside0 (Kd.R (Kd.int .i64) 3 w' w.heap.size (fun _ => True) (.slice Ao69 t885.length co69) t885) ∧ Aside0 (Kd.R (Kd.int .i64) 36 w' w.heap.size (fun _ => True) u893001 x893001_3) ∧ Aside0 (w'.heap[gb855]? = some (.cells #[(.slice A0_0 l0_0.length c0_0), (.slice A0_1 l0_1.length c0_1)] 273 (0, 0))) ∧ Aside0 (w'.heap[gb856]? = some (.cells #[(.slice none 0 0), (.slice none 0 0)] 273 (0, 0))) ∧ Aside0 (w'.heap[gb892]? = some (.cells #[(.slice Ao69 t885.length co69), u893001] 273 (0, 0))) ∧ Aside0 (Below w.heap.size w w'))
     case atStart => exact ⟨(0), (t888), (.slice Ao73 t888.length co73), z1_, H', ⟨Nat.le_refl _⟩, ⟨zr_ (Kd.R_mono (Kd.R_far (p := ⟨gb892, 1, none⟩) (Kd.R_far (p := ⟨gb892, 0, none⟩) (Kd.R_types HO_7.out BK892.out (by decide)) (fun _ hk => hk.2) (.slice Ao69 t885.length co69)) (fun _ hk => hk.2) (.slice Ao73 t888.length co73)) (fun _ hk => trivial))⟩, ⟨zr_ (Kd.R_mono (Kd.R_far (p := ⟨gb892, 1, none⟩) (Kd.R_far (p := ⟨gb892, 0, none⟩) (Kd.R_types HO887.out BK892.out (by decide)) (fun _ hk => hk.2) (.slice Ao69 t885.length co69)) (fun _ hk => hk.2) (.slice Ao73 t888.length co73)) (fun _ hk => trivial))⟩, ⟨zr_ (Kd.R_mono (Kd.R_far (p := ⟨gb892, 1, none⟩) (Kd.R_far (p := ⟨gb892, 0, none⟩) (Kd.R_types HO890.out BK892.out (by decide)) (fun _ hk => hk.2) (.slice Ao69 t885.length co69)) (fun _ hk => hk.2) (.slice Ao73 t888.length co73)) (fun _ hk => trivial))⟩, ⟨zv1_ BK855 NB855_892⟩, ⟨zv1_ BK856 NB856_892⟩, ⟨zo2_ BK892⟩, ⟨zw3_ HB GE855 GE856 GE892⟩⟩
     case round =>
      clear H'
      try clear p2
      try clear p5
      try clear q5
      try clear hx5
      try clear hf5
      try clear p6
      try clear c8b0
      try clear p8
      try clear q8
      try clear hx8
      try clear c20b0
      try clear c20b1
      try clear c21b0
      try clear c21b1
      try clear c24b0
      try clear c24b1
      try clear c25b0
      try clear c25b1
      try clear c28b0
      try clear c28b1
      try clear c29b0
      try clear c29b1
      try clear c31b0
      try clear c47b0
      try clear c48b0
      try clear c49b0
      try clear c50b0
      try clear c51b0
      try clear c52b0
      try clear c52b1
      try clear c53b0
      try clear c53b1
      try clear c55b0
      try clear c56b0
      try clear p59
      try clear q59
      try clear hx59
      try clear hf59
      try clear p64
      try clear hcz10_0
      try clear hcz10_1
      try clear hcz13_0
      try clear hcz13_1
      try clear hcz15_0
      try clear hcz15_1
      try clear hcz17_0
      try clear hcz17_1
      try clear hcz43_0
      try clear hcz43_1
      try clear hcz46_0
      try clear hcz46_1
      try clear hcz72_0
      try clear hcz72_1
      try clear hfz10_0
      try clear hfz10_1
      try clear hfz13_0
      try clear hfz13_1
      try clear hfz15_0
      try clear hfz15_1
      try clear hfz17_0
      try clear hfz17_1
      try clear hfz43_0
      try clear hfz43_1
      try clear hfz46_0
      try clear hfz46_1
      try clear hfz72_0
      try clear hfz72_1
      try clear hx59_0
      try clear hx59_1
      try clear hx876_0
      try clear hx877_0
      try clear hx878_0
      try clear hx879_0
      try clear hx879_1
      try clear p2
      try clear p59
      try clear p6
      try clear p8
      try clear p876
      try clear p877
      try clear p878
      try clear p879
      try clear q59
      try clear q8
      try clear q876
      try clear q877
      try clear q878
      try clear q879
      obtain ⟨x93_3, x893001_3, u893001, rfl, HA, HK3, HO_91, HO_893000, HO_893001, BK855, BK856, BK892, HB⟩ := hrel
      cases gk with
      | zero => exact absurd HA.out (by simp [matm_Sum.l1])
      | succ k3 =>
       have H := HA.out
       clear HA
       simp only [matm_Sum.l1] at H
       by_cases c75 : x93_3 < (x7_2.length : Int)
       rotate_left
       ·rw [if_neg c75] at H
        have c75b0 : decide (x93_3 < (x7_2.length : Int)) = false := decide_eq_false c75
        clear c75
        simp only [Option.some.injEq, Prod.mk.injEq] at H
        obtain ⟨rfl, rfl, rfl⟩ := H
        have hnb90 := NB892_855.out
        have hnc90 := NB855_892.out
        have hnb91 := NB892_856.out
        have hnc91 := NB856_892.out
        have hcz92_0 := zx_ (v := .slice Ao69 t885.length co69) BK892 0
        have hcz92_1 := zx_ (v := u893001) BK892 1
        have hfz92_0 := blk_frozen BK892.out 0
        have hfz92_1 := blk_frozen BK892.out 1
        have hnb93 := NB856_855.out
        have hnc93 := NB855_856.out
        have hcz94_0 := zx_ (v := .slice none 0 0) BK856 0
        have hcz94_1 := zx_ (v := .slice none 0 0) BK856 1
        have hfz94_0 := blk_frozen BK856.out 0
        have hfz94_1 := blk_frozen BK856.out 1
        obtain ⟨Ao95, co95, eo95⟩ := Kd.R_slice HO_893001.out
        subst eo95
        go_wp2
        refine bodyPost_ret (results_ct rfl _ _ gb856 273 #[.slice Ao69 t885.length co69, .slice Ao95 x893001_3.length co95] (0, 0) _ rfl (zo2_ BK856) Tryz.underlying273 rfl (by kernel_rfl)) rfl ?_
        exact ⟨_, _, by first | rfl | (simp [errW_none, errW_some] <;> rfl) | (simp only [← hji23]; first | rfl | (simp [errW_none, errW_some] <;> rfl)) | (simp [*, errW_none, errW_some] <;> rfl), zr_ (Kd.R_mono (Kd.R_far (p := ⟨gb856, 1, none⟩) (Kd.R_far (p := ⟨gb856, 0, none⟩) (Kd.R_types HO_893000.out BK856.out (by decide)) (fun _ hk => hk.2) (.slice Ao69 t885.length co69)) (fun _ hk => hk.2) (.slice Ao95 x893001_3.length co95)) (fun _ hk => trivial)), zr_ (Kd.R_mono (Kd.R_far (p := ⟨gb856, 1, none⟩) (Kd.R_far (p := ⟨gb856, 0, none⟩) (Kd.R_types HO_893001.out BK856.out (by decide)) (fun _ hk => hk.2) (.slice Ao69 t885.length co69)) (fun _ hk => hk.2) (.slice Ao95 x893001_3.length co95)) (fun _ hk => trivial)), zw3_ HB GE855 GE856 GE892⟩
       rw [if_pos c75] at H
       have c75b0 : decide (x93_3 < (x7_2.length : Int)) = true := decide_eq_true c75
       clear c75
       by_cases c76 : 0 ≤ x93_3
       rotate_left
       ·rw [if_neg c76] at H
        exact zN_ H
       rw [if_pos c76] at H
       have c76b0 : decide (0 ≤ x93_3) = true := decide_eq_true c76
       clear c76
       by_cases c77 : x93_3 < (x7_2.length : Int)
       rotate_left
       ·rw [if_neg c77] at H
        exact zN_ H
       rw [if_pos c77] at H
       have c77b0 : decide (x93_3 < (x7_2.length : Int)) = true := decide_eq_true c77
       clear c77
       replace H := zO_ H
       obtain ⟨t895, A780, H⟩ := H
       (try dsimp only at H)
       have A78 := zA_ A780
       clear A780
       by_cases c79 : x93_3 < (x893001_3.length : Int)
       rotate_left
       ·rw [if_neg c79] at H
        exact zN_ H
       rw [if_pos c79] at H
       have c79b0 : decide (x93_3 < (x893001_3.length : Int)) = true := decide_eq_true c79
       clear c79
       obtain ⟨y896, hy896⟩ : ∃ y_ : List Int, y_ = (x893001_3.set (x93_3 : Int).toNat t895) := ⟨_, rfl⟩
       replace H : (matm_Sum.l1 k3 x7_2 (x7_2.length : Int) (wrap64 (x93_3 + 1)) t885 y896) = some (r1, r2, r3) := by first | (rw [hy896]; with_reducible exact H) | (have H2_ := (Option.bind_some _ _).symm.trans H; rw [hy896]; with_reducible exact H2_) | (have H2_ := (Option.bind_some _ _).symm.trans H; with_reducible exact H2_) | with_reducible exact H | (rw [hy896]; exact H) | exact H
       have Ny896 := zA_ hy896
       clear hy896
       have H' := zA_ H
       clear H
       have p893 : 0 ≤ (x93_3 : Int) := zD_
       have q893 : x93_3 < (x7_2.length : Int) := zD_
       obtain ⟨ad893, e893, hx893_0, hx893_1⟩ := at_T292 (Kd.R_reads' HO_91.out).2.2 x93_3 p893 q893
       cases e893
       replace p893 := eq_true p893
       replace q893 := eq_true q893
       try go_wp2_with (first | ((with_reducible refine gate_dst (N := 15) rfl ?_); (try (refine gate_guard (by rfl) ?_; dsimp only)); refine zB_ (#[.int .i64 0, .int .u64 0]) 292 ?_; intro gb894 hg w81 hbox hb; replace HO_91 := zA_ (Kd.R_below (Kd.R_elderB (zr_ HO_91.out) gb894 (Nat.le_of_eq hg.symm)) hb); replace HO_893000 := zy_ HO_893000 hb; replace HO_893001 := zy_ HO_893001 hb; have BK894 := zA_ (hbox); have GW894 := zA_ (zs_ hg (zw3_ HB GE855 GE856 GE892)); have GE894 := zA_ (zs_ hg (zw3_ HB GE855 GE856 GE892)); replace HB := zA_ (below_step (zw3_ HB GE855 GE856 GE892) hb); have NB855_894 := zA_ (zn_ hg BK855); have NB894_855 := zA_ (zm_ hg BK855); replace BK855 := za_ BK855 hb; have NB856_894 := zA_ (zn_ hg BK856); have NB894_856 := zA_ (zm_ hg BK856); replace BK856 := za_ BK856 hb; have NB892_894 := zA_ (zn_ hg BK892); have NB894_892 := zA_ (zm_ hg BK892); replace BK892 := za_ BK892 hb; clear hb hbox hg; have hnb82 := NB894_855.out; have hnc82 := NB855_894.out; have hnb83 := NB894_856.out; have hnc83 := NB856_894.out; have hnb84 := NB894_892.out; have hnc84 := NB892_894.out; have hcz85_0 := zx_ (v := .int .i64 0) BK894 0; have hcz85_1 := zx_ (v := .int .u64 0) BK894 1; have hfz85_0 := blk_frozen BK894.out 0; have hfz85_1 := blk_frozen BK894.out 1))
       have n0_ : Aside0 (Kd.R k292 292 ((w81.setCell ⟨gb894, 0, none⟩ (.int .i64 ((rd_T292 x7_2 x93_3).f0))).setCell ⟨gb894, 1, none⟩ (.int .u64 ((rd_T292 x7_2 x93_3).f1))) w.heap.size (fun k_ => k_ ≠ gb894) (.slice (some ad893) x7_2.length co74) x7_2) := ⟨zr_ (Kd.R_mono (Kd.R_far (p := ⟨gb894, 1, none⟩) (Kd.R_far (p := ⟨gb894, 0, none⟩) (Kd.R_mono HO_91.out (fun k_ hk => (⟨hk, hk.2⟩ : _ ∧ k_ ≠ gb894))) (fun _ hk => hk.2) (.int .i64 ((rd_T292 x7_2 x93_3).f0))) (fun _ hk => hk.2) (.int .u64 ((rd_T292 x7_2 x93_3).f1))) (fun _ hk => hk.1.2))⟩
       have n1_ : Aside0 (Kd.R (Kd.int .i64) 3 ((w81.setCell ⟨gb894, 0, none⟩ (.int .i64 ((rd_T292 x7_2 x93_3).f0))).setCell ⟨gb894, 1, none⟩ (.int .u64 ((rd_T292 x7_2 x93_3).f1))) w.heap.size (fun _ => True) (.slice Ao69 t885.length co69) t885) := ⟨zr_ (Kd.R_mono (Kd.R_far (p := ⟨gb894, 1, none⟩) (Kd.R_far (p := ⟨gb894, 0, none⟩) (Kd.R_types HO_893000.out BK894.out (by decide)) (fun _ hk => hk.2) (.int .i64 ((rd_T292 x7_2 x93_3).f0))) (fun _ hk => hk.2) (.int .u64 ((rd_T292 x7_2 x93_3).f1))) (fun _ hk => trivial))⟩
       have n2_ : Aside0 (Kd.R (Kd.int .i64) 36 ((w81.setCell ⟨gb894, 0, none⟩ (.int .i64 ((rd_T292 x7_2 x93_3).f0))).setCell ⟨gb894, 1, none⟩ (.int .u64 ((rd_T292 x7_2 x93_3).f1))) w.heap.size (fun _ => True) u893001 x893001_3) := ⟨zr_ (Kd.R_mono (Kd.R_far (p := ⟨gb894, 1, none⟩) (Kd.R_far (p := ⟨gb894, 0, none⟩) (Kd.R_types HO_893001.out BK894.out (by decide)) (fun _ hk => hk.2) (.int .i64 ((rd_T292 x7_2 x93_3).f0))) (fun _ hk => hk.2) (.int .u64 ((rd_T292 x7_2 x93_3).f1))) (fun _ hk => trivial))⟩
       have n3_ : Aside0 (((w81.setCell ⟨gb894, 0, none⟩ (.int .i64 ((rd_T292 x7_2 x93_3).f0))).setCell ⟨gb894, 1, none⟩ (.int .u64 ((rd_T292 x7_2 x93_3).f1))).heap[gb855]? = some (.cells #[.slice A0_0 l0_0.length c0_0, .slice A0_1 l0_1.length c0_1] 273 (0, 0))) := ⟨zv1_ BK855 NB855_894⟩
       have n4_ : Aside0 (((w81.setCell ⟨gb894, 0, none⟩ (.int .i64 ((rd_T292 x7_2 x93_3).f0))).setCell ⟨gb894, 1, none⟩ (.int .u64 ((rd_T292 x7_2 x93_3).f1))).heap[gb856]? = some (.cells #[.slice none 0 0, .slice none 0 0] 273 (0, 0))) := ⟨zv1_ BK856 NB856_894⟩
       have n5_ : Aside0 (((w81.setCell ⟨gb894, 0, none⟩ (.int .i64 ((rd_T292 x7_2 x93_3).f0))).setCell ⟨gb894, 1, none⟩ (.int .u64 ((rd_T292 x7_2 x93_3).f1))).heap[gb892]? = some (.cells #[.slice Ao69 t885.length co69, u893001] 273 (0, 0))) := ⟨zv1_ BK892 NB892_894⟩
       have n6_ : Aside0 (((w81.setCell ⟨gb894, 0, none⟩ (.int .i64 ((rd_T292 x7_2 x93_3).f0))).setCell ⟨gb894, 1, none⟩ (.int .u64 ((rd_T292 x7_2 x93_3).f1))).heap[gb894]? = some (.cells #[.int .i64 ((rd_T292 x7_2 x93_3).f0), .int .u64 ((rd_T292 x7_2 x93_3).f1)] 292 (0, 0))) := ⟨zo2_ BK894⟩
       have n7_ : Aside0 (Below w.heap.size w ((w81.setCell ⟨gb894, 0, none⟩ (.int .i64 ((rd_T292 x7_2 x93_3).f0))).setCell ⟨gb894, 1, none⟩ (.int .u64 ((rd_T292 x7_2 x93_3).f1)))) := ⟨zw4_ HB GE855 GE856 GE892 GE894⟩
       (try clear HO_91)
       (try clear HO_893000)
       (try clear HO_893001)
       (try clear BK855)
       (try clear BK856)
       (try clear BK892)
       (try clear BK894)
       (try clear HB)
       generalize ((w81.setCell ⟨gb894, 0, none⟩ (.int .i64 ((rd_T292 x7_2 x93_3).f0))).setCell ⟨gb894, 1, none⟩ (.int .u64 ((rd_T292 x7_2 x93_3).f1))) = w86 at n0_ n1_ n2_ n3_ n4_ n5_ n6_ n7_ ⊢
       have HO_91 := n0_
       have HO_893000 := n1_
       have HO_893001 := n2_
       have BK855 := n3_
       have BK856 := n4_
       have BK892 := n5_
       have BK894 := n6_
       have HB := n7_
       clear n0_ n1_ n2_ n3_ n4_ n5_ n6_ n7_
       replace HO_91 := zA_ (Kd.R_drew HO_91.out)
       replace HO_893000 := zA_ (Kd.R_drew HO_893000.out)
       replace HO_893001 := zA_ (Kd.R_drew HO_893001.out)
       replace BK855 := zA_ (blk_drew BK855.out)
       replace BK856 := zA_ (blk_drew BK856.out)
       replace BK892 := zA_ (blk_drew BK892.out)
       replace BK894 := zA_ (blk_drew BK894.out)
       replace HB := zA_ (below_drew1 HB.out)
       refine start_ (n := 7) (S := fun w' => w'.cell? ⟨gb892, 0, none⟩ = some (.slice Ao69 t885.length co69) ∧ w'.cell? ⟨gb892, 1, none⟩ = some (u893001) ∧ w'.cell? ⟨gb894, 0, none⟩ = some (.int .i64 ((rd_T292 x7_2 x93_3).f0)) ∧ w'.cell? ⟨gb894, 1, none⟩ = some (.int .u64 ((rd_T292 x7_2 x93_3).f1))) (ds := [6]) #[false, false, false, false, false, false, false] (by kernel_rfl) rfl rfl ⟨(blk_cell BK892.out 0).trans rfl, (blk_cell BK892.out 1).trans rfl, (blk_cell BK894.out 0).trans rfl, (blk_cell BK894.out 1).trans rfl⟩ (fun hHeld => ?_)
       generalize w86.drew = w87 at HO_91 HO_893000 HO_893001 BK855 BK856 BK892 BK894 HB hHeld ⊢
       refine pure_ (i := 0) (N := some 98) (v := ?_) (a' := ?_) #[true, false, false, false, false, false, false] rfl rfl (by kernel_rfl) (fun _ _ _ h => h) (Or.inl ⟨by rfl, ?_⟩) ?_ ?_
       rotate_left
       ·intro w'
        go_simp
        with_reducible rfl
       rotate_left
       ·simp only [Act.put, List.setIfInBounds_toArray, List.set_cons_zero, List.set_cons_succ, i64_w, i32_w]
        rfl
       refine pure_ (i := 2) (N := some 100) (v := ?_) (a' := ?_) #[true, false, true, false, false, false, false] rfl rfl (by kernel_rfl) (fun _ _ _ h => h) (Or.inl ⟨by rfl, ?_⟩) ?_ ?_
       rotate_left
       ·intro w'
        go_simp
        with_reducible rfl
       rotate_left
       ·simp only [Act.put, List.setIfInBounds_toArray, List.set_cons_zero, List.set_cons_succ, i64_w, i32_w]
        rfl
       refine take_ (i := 1) (N := some 99) (v := ?_) (a' := ?_) #[true, true, true, false, false, false, false] rfl rfl (by kernel_rfl) (fun _ _ _ h => h) (Or.inl ⟨by rfl, ?_⟩) hHeld ?_ ?_
       rotate_left
       ·rintro w' ⟨s0, s1, s2, s3⟩
        go_simp
        with_reducible rfl
       rotate_left
       ·simp only [Act.put, List.setIfInBounds_toArray, List.set_cons_zero, List.set_cons_succ, i64_w, i32_w]
        rfl
       refine take_ (i := 3) (N := some 101) (v := ?_) (a' := ?_) #[true, true, true, true, false, false, false] rfl rfl (by kernel_rfl) (fun _ _ _ h => h) (Or.inl ⟨by rfl, ?_⟩) hHeld ?_ ?_
       rotate_left
       ·rintro w' ⟨s0, s1, s2, s3⟩
        go_simp
        with_reducible rfl
       rotate_left
       ·simp only [Act.put, List.setIfInBounds_toArray, List.set_cons_zero, List.set_cons_succ, i64_w, i32_w]
        rfl
       refine one_ (i := 4) (N := some 102) #[true, true, true, true, true, false, false] rfl rfl (by kernel_rfl) (by decide) (fun K hK => ?_)
       refine yg_ Tryz.func374 #[.agg #[.int .i64 ((rd_T292 x7_2 x93_3).f0), .int .u64 ((rd_T292 x7_2 x93_3).f1)]] ?_
       with_reducible refine (wide_Fix.calls k3 ((rd_T292 x7_2 x93_3).f0) ((rd_T292 x7_2 x93_3).f1) t895 _ A78.out).mono ?_
       rintro e w88 ⟨rfl, hb⟩
       refine ⟨_, rfl, ?_⟩
       replace HO_91 := zy_ HO_91 hb
       replace HO_893000 := zy_ HO_893000 hb
       replace HO_893001 := zy_ HO_893001 hb
       replace BK855 := za_ BK855 hb
       replace BK856 := za_ BK856 hb
       replace BK892 := za_ BK892 hb
       replace BK894 := za_ BK894 hb
       replace HB := zA_ (below_step (zw4_ HB GE855 GE856 GE892 GE894) hb)
       (try clear hb)
       (try clear hb2)
       (try clear hk)
       (try clear hi)
       have p80 : 0 ≤ (x93_3 : Int) := zD_
       have q80 : (x93_3 : Int) < ((x893001_3.length : Int) : Int) := zD_
       obtain ⟨go80, co80, eo80, gb80, gl80, cl80, HG80⟩ := Kd.R_form HO_893001.out (by omega)
       (first | cases eo80 | (injection eo80 with ea_ en_ ec_; (first | subst ea_ | (injection ea_ with ea_; subst ea_)); subst ec_; clear en_))
       have GB80 := zA_ gb80
       have GG80 := zA_ HG80
       clear gb80 gl80 HG80
       obtain ⟨hx80_0, hf80_0⟩ := Kd.R_celln 0 HO_893001.out (x93_3 : Int) p80 q80
       replace p80 := eq_true p80
       replace q80 := eq_true q80
       have HP89 := Kd.R_putn HO_893001.out (x93_3 : Int) t895
       rw [← Ny896.out] at HP89
       have HQ89 := zA_ HP89
       clear HP89
       refine hK.out _ _ ⟨zx_ BK892 0, zx_ BK892 1, zx_ BK894 0, zx_ BK894 1⟩ (fun hHeld => ?_)
       clear hK K
       refine zq_ (some 102) (h := ?_)
       refine pure_ (i := 5) (N := some 103) (v := ?_) (a' := ?_) #[true, true, true, true, true, true, false] rfl rfl (by kernel_rfl) (fun _ _ _ h => h) (Or.inl ⟨by rfl, ?_⟩) ?_ ?_
       rotate_left
       ·intro w'
        go_simp
        with_reducible rfl
       rotate_left
       ·simp only [Act.put, List.setIfInBounds_toArray, List.set_cons_zero, List.set_cons_succ, i64_w, i32_w]
        rfl
       refine last_ (i := 6) (N := none) #[true, true, true, true, true, true, true] rfl rfl (by kernel_rfl) (by decide) (fun K hK => ?_)
       refine skip_ (w1 := ?_) (by rfl) rfl ?_ ?_
       rotate_left
       ·go_simp
        rfl
       refine hK.out _ _ ?_
       clear hK K
       refine done_ (by kernel_rfl) ?_
       try go_wp2
       go_roundg k3
       case measure => have := HJ2.out; have := HK2.out; have := HK3.out; omega
       case rel => exact ⟨(wrap64 (x93_3 + 1)), (y896), (.slice (some ⟨go80, 0, none⟩) x893001_3.length co80), z1_, H', ⟨by have := HJ2.out; have := HK2.out; have := HK3.out; omega⟩, ⟨zr_ (Kd.R_mono (Kd.R_far (p := ⟨go80, (x93_3 : Int).toNat, none⟩) (Kd.R_types HO_91.out GG80.out (by decide)) (fun _ hk => hk.2) (.int .i64 t895)) (fun _ hk => trivial))⟩, ⟨zr_ (Kd.R_mono (Kd.R_far (p := ⟨go80, (x93_3 : Int).toNat, none⟩) (Kd.R_types HO_893000.out GG80.out (by decide)) (fun _ hk => hk.2) (.int .i64 t895)) (fun _ hk => trivial))⟩, ⟨zr_ HQ89.out⟩, ⟨by (with_reducible repeat (first | refine blk_drewN ?_ _ | refine blk_drew ?_ | refine blk_alloc ?_ _)); refine blk_far ?_ (by have h_ := Kd.R_ne HO_893001.out BK855.out (by decide); intro e_; exact h_ (by rw [e_]; rfl)) _; (with_reducible repeat (first | refine blk_drewN ?_ _ | refine blk_drew ?_ | refine blk_alloc ?_ _)); exact BK855.out⟩, ⟨by (with_reducible repeat (first | refine blk_drewN ?_ _ | refine blk_drew ?_ | refine blk_alloc ?_ _)); refine blk_far ?_ (by have h_ := Kd.R_ne HO_893001.out BK856.out (by decide); intro e_; exact h_ (by rw [e_]; rfl)) _; (with_reducible repeat (first | refine blk_drewN ?_ _ | refine blk_drew ?_ | refine blk_alloc ?_ _)); exact BK856.out⟩, ⟨by (with_reducible repeat (first | refine blk_drewN ?_ _ | refine blk_drew ?_ | refine blk_alloc ?_ _)); refine blk_far ?_ (by have h_ := Kd.R_ne HO_893001.out BK892.out (by decide); intro e_; exact h_ (by rw [e_]; rfl)) _; (with_reducible repeat (first | refine blk_drewN ?_ _ | refine blk_drew ?_ | refine blk_alloc ?_ _)); exact BK892.out⟩, ⟨by repeat (first | (with_reducible first | exact HB.out | apply below_alloc | apply pw_below_drewN | apply below_drew1 | refine below_set ?_ GB80.out | refine below_set ?_ GE855.out | refine below_set ?_ GE856.out | refine below_set ?_ GE892.out | refine below_set ?_ GE894.out) | exact HB.out)⟩⟩
end Go.Proofs.YtmddclifcgcpcaaGreatDoor.PTopNames
namespace Go.Proofs.YtmddclifcgcpcaaGreatDoor.PTopNames
open Go.RowKit Go.Proofs.YtmddclifcgcpcaaGreatDoorW.PrintWords Go.Proofs.YtmddclifcgcpcaaGreatDoorW.PrintLast Go.Proofs.YtmddclifcgcpcaaGreatDoorW.PrintMore
attribute [local go_sem] max2_int min2_int max_two min_two max_three min_three max_four min_four
attribute [local go_sem high] eqA292
def tape_single.f (k : Nat) (a0 : Int) (a1 : Int) : Option (List Int × List Int × Int) := if a1 = 0 then ((tens_New.f k ([] : List Int) a0).bind fun bt898 => (some (bt898.1, bt898.2.1, bt898.2.2))) else (none)
theorem tape_single.calls (k : Nat) (a0 : Int) (a1 : Int) (r1 : List Int) (r2 : List Int) (r3 : Int) (w : World) (h : tape_single.f k a0 a1 = some (r1, r2, r3)) :
  Calls Tryz.prog 388 #[.int .i64 a0, .int .i64 a1] w fun e w' => ∃ v0_ v1_ : Value, e = .returned (.tuple #[.agg #[v0_, v1_], .int .i64 r3]) ∧ Kd.R (Kd.int .i64) 3 w' w.heap.size (fun _ => True) v0_ r1 ∧ Kd.R (Kd.int .i64) 36 w' w.heap.size (fun _ => True) v1_ r2 ∧ Below w.heap.size w w' := by
 have hu273 := Tryz.underlying273
 have HB := zA_ (Below.refl w.heap.size w)
 have H : (if a1 = 0 then ((tens_New.f k ([] : List Int) a0).bind fun bt898 => (some (bt898.1, bt898.2.1, bt898.2.2))) else (none)) = some (r1, r2, r3) := h
 clear h
 by_cases c3 : a1 = 0
 rotate_left
 ·rw [if_neg c3] at H
  exact zN_ H
 rw [if_pos c3] at H
 have c3b0 : (a1 == 0) = true := beq_iff_eq.mpr c3
 have c3b1 : (a1 != 0) = false := bne_eq_false_iff_eq.mpr c3
 clear c3
 replace H := zO_ H
 obtain ⟨⟨t898, t901, t904⟩, A40, H⟩ := H
 replace H : (some (t898, t901, t904)) = some (r1, r2, r3) := H
 have A4 := zA_ A40
 clear A40
 simp only [Option.some.injEq, Prod.mk.injEq] at H
 obtain ⟨rfl, rfl, rfl⟩ := H
 go_enter Tryz.func388, Tryz.ntmps388
 go_wp2_with (first | ((with_reducible refine gate_dst (N := 4) rfl ?_); refine zB_ (#[.slice none 0 0, .slice none 0 0]) 273 ?_; intro gb897 hg w5 hbox hb; have BK897 := zA_ (hbox); have GW897 := zA_ (zs_ hg (zw0_ HB)); have GE897 := zA_ (zs_ hg (zw0_ HB)); replace HB := zA_ (below_step (zw0_ HB) hb); clear hb hbox hg) | ((with_reducible refine gate_callee (f := 250) rfl ?_); refine zg_ (some 11) Tryz.func250 #[.slice none 0 0, .int .i64 a0] (h := ?_); (refine (tens_New.calls k _ _ ([] : List Int) a0 t898 t901 t904 _ ?side1 ?side2 A4.out).mono ?_); (case side1 => exact Kd.C_nil _ _); (case side2 => exact Nat.le_refl _); rintro e w6 ⟨v899, v902, rfl, ho0, ho1, hb⟩; refine ⟨_, rfl, ?_⟩; have HO900 := zA_ (Kd.R_lower ho0 (below_size (zw1_ HB GE897))); have HO903 := zA_ (Kd.R_lower ho1 (below_size (zw1_ HB GE897))); replace BK897 := za_ BK897 hb; replace HB := zA_ (below_step (zw1_ HB GE897) hb); (try clear hb); (try clear ho0); (try clear ho1); obtain ⟨Ao7, co7, eo7⟩ := Kd.R_slice HO900.out; subst eo7; have hcz8_0 := zx_ (v := .slice none 0 0) BK897 0; have hcz8_1 := zx_ (v := .slice none 0 0) BK897 1; have hfz8_0 := blk_frozen BK897.out 0; have hfz8_1 := blk_frozen BK897.out 1; obtain ⟨Ao9, co9, eo9⟩ := Kd.R_slice HO903.out; subst eo9))
 refine bodyPost_ret (results_ct rfl _ _ gb897 273 #[.slice Ao7 t898.length co7, .slice Ao9 t901.length co9] (0, 0) _ rfl (zo2_ BK897) Tryz.underlying273 rfl (by kernel_rfl)) rfl ?_
 exact ⟨_, _, z0_, zr_ (Kd.R_mono (Kd.R_far (p := ⟨gb897, 1, none⟩) (Kd.R_far (p := ⟨gb897, 0, none⟩) (Kd.R_types HO900.out BK897.out (by decide)) (fun _ hk => hk.2) (.slice Ao7 t898.length co7)) (fun _ hk => hk.2) (.slice Ao9 t901.length co9)) (fun _ hk => trivial)), zr_ (Kd.R_mono (Kd.R_far (p := ⟨gb897, 1, none⟩) (Kd.R_far (p := ⟨gb897, 0, none⟩) (Kd.R_types HO903.out BK897.out (by decide)) (fun _ hk => hk.2) (.slice Ao7 t898.length co7)) (fun _ hk => hk.2) (.slice Ao9 t901.length co9)) (fun _ hk => trivial)), zw1_ HB GE897⟩
def matm_total.l0 : Nat → List Int → Int → Int → Int → Int → Option (Int × Int)
 | 0, _, _, _, _, _ => none
 | k + 1, x7, x8, x9, x907000, x907001 => if x9 < x8 then (if 0 ≤ x9 then (if x9 < (x7.length : Int) then ((wide_Of.f (rd x7 x9)).bind fun bt908 => ((wide_Add.f x907000 x907001 bt908.1 bt908.2).bind fun bt910 => (matm_total.l0 k x7 x8 (wrap64 (x9 + 1)) bt910.1 bt910.2))) else (none)) else (none)) else (some (x907000, x907001))
def matm_total.f (k : Nat) (l0 : List Int) : Option (Int × Int) := matm_total.l0 k l0 (l0.length : Int) 0 0 0
theorem matm_total.calls (k : Nat) (A0 : Option Addr) (c0 : Nat) (l0 : List Int) (r1 : Int) (r2 : Int) (w : World) (hr0 : Kd.C (Kd.int .i64) w A0 l0.length l0) (hc0 : l0.length ≤ c0) (h : matm_total.f k l0 = some (r1, r2)) :
  Calls Tryz.prog 402 #[.slice A0 l0.length c0] w fun e w' => e = .returned (.agg #[.int .i64 r1, .int .u64 r2]) ∧ Below w.heap.size w w' := by
 have hu292 := Tryz.underlying292
 have HR0 := zA_ hr0
 have HC0 := zA_ hc0
 clear hr0 hc0
 have HB := zA_ (Below.refl w.heap.size w)
 have H : (matm_total.l0 k l0 (l0.length : Int) 0 0 0) = some (r1, r2) := h
 clear h
 have H' := zA_ H
 clear H
 go_enter Tryz.func402, Tryz.ntmps402
 go_wp2_with (first | ((with_reducible refine gate_dst (N := 2) rfl ?_); refine zB_ (#[.int .i64 0, .int .u64 0]) 292 ?_; intro gb905 hg w2 hbox hb; have BK905 := zA_ (hbox); have GW905 := zA_ (zs_ hg (zw0_ HB)); have GE905 := zA_ (zs_ hg (zw0_ HB)); replace HB := zA_ (below_step (zw0_ HB) hb); clear hb hbox hg) | ((with_reducible refine gate_dst (N := 3) rfl ?_); refine zB_ (#[.int .i64 0, .int .u64 0]) 292 ?_; intro gb906 hg w3 hbox hb; have BK906 := zA_ (hbox); have GW906 := zA_ (zs_ hg (zw1_ HB GE905)); have GE906 := zA_ (zs_ hg (zw1_ HB GE905)); replace HB := zA_ (below_step (zw1_ HB GE905) hb); have NB905_906 := zA_ (zn_ hg BK905); have NB906_905 := zA_ (zm_ hg BK905); replace BK905 := za_ BK905 hb; clear hb hbox hg; have hnb4 := NB906_905.out; have hnc4 := NB905_906.out; have hcz5_0 := zx_ (v := .int .i64 0) BK906 0; have hcz5_1 := zx_ (v := .int .u64 0) BK906 1; have hfz5_0 := blk_frozen BK906.out 0; have hfz5_1 := blk_frozen BK906.out 1))
 go_loopg [9] k (fun kq v9 w' => ∃ (x9_1 : Int) (x907000_1 : Int) (x907001_1 : Int), v9 = .int .i64 x9_1 ∧ Aside0 (matm_total.l0 kq l0 (l0.length : Int) x9_1 x907000_1 x907001_1 = some (r1, r2)) ∧ Aside0 (kq ≤ k) ∧ Aside0 (w'.heap[gb905]? = some (.cells #[.int .i64 0, .int .u64 0] 292 (0, 0))) ∧ Aside0 (w'.heap[gb906]? = some (.cells #[.int .i64 x907000_1, .int .u64 x907001_1] 292 (0, 0))) ∧ Aside0 (Below w.heap.size w w'))
 case atStart => exact ⟨(0), (0), (0), z1_, H', ⟨Nat.le_refl _⟩, ⟨zv1_ BK905 NB905_906⟩, ⟨zo2_ BK906⟩, ⟨zw2_ HB GE905 GE906⟩⟩
 case round =>
  clear H'
  try clear p2
  try clear hcz5_0
  try clear hcz5_1
  try clear hfz5_0
  try clear hfz5_1
  obtain ⟨x9_1, x907000_1, x907001_1, rfl, HA, HK1, BK905, BK906, HB⟩ := hrel
  cases gk with
  | zero => exact absurd HA.out (by simp [matm_total.l0])
  | succ k1 =>
   have H := HA.out
   clear HA
   simp only [matm_total.l0] at H
   by_cases c6 : x9_1 < (l0.length : Int)
   rotate_left
   ·rw [if_neg c6] at H
    have c6b0 : decide (x9_1 < (l0.length : Int)) = false := decide_eq_false c6
    clear c6
    simp only [Option.some.injEq, Prod.mk.injEq] at H
    obtain ⟨rfl, rfl⟩ := H
    have hnb16 := NB906_905.out
    have hnc16 := NB905_906.out
    have hcz17_0 := zx_ (v := .int .i64 x907000_1) BK906 0
    have hcz17_1 := zx_ (v := .int .u64 x907001_1) BK906 1
    have hfz17_0 := blk_frozen BK906.out 0
    have hfz17_1 := blk_frozen BK906.out 1
    have hcz18_0 := zx_ (v := .int .i64 0) BK905 0
    have hcz18_1 := zx_ (v := .int .u64 0) BK905 1
    have hfz18_0 := blk_frozen BK905.out 0
    have hfz18_1 := blk_frozen BK905.out 1
    go_wp2
    refine bodyPost_ret (results_cell_row rfl _ _ gb905 292 #[.int .i64 x907000_1, .int .u64 x907001_1] (0, 0) _ rfl (zo2_ BK905) Tryz.underlying292 rfl (by kernel_rfl)) rfl ?_
    exact ⟨z0_, zw2_ HB GE905 GE906⟩
   rw [if_pos c6] at H
   have c6b0 : decide (x9_1 < (l0.length : Int)) = true := decide_eq_true c6
   clear c6
   by_cases c7 : 0 ≤ x9_1
   rotate_left
   ·rw [if_neg c7] at H
    exact zN_ H
   rw [if_pos c7] at H
   have c7b0 : decide (0 ≤ x9_1) = true := decide_eq_true c7
   clear c7
   by_cases c8 : x9_1 < (l0.length : Int)
   rotate_left
   ·rw [if_neg c8] at H
    exact zN_ H
   rw [if_pos c8] at H
   have c8b0 : decide (x9_1 < (l0.length : Int)) = true := decide_eq_true c8
   clear c8
   replace H := zO_ H
   obtain ⟨⟨t908, t909⟩, A90, H⟩ := H
   (try dsimp only at H)
   have A9 := zA_ A90
   clear A90
   replace H := zO_ H
   obtain ⟨⟨t910, t911⟩, A100, H⟩ := H
   replace H : (matm_total.l0 k1 l0 (l0.length : Int) (wrap64 (x9_1 + 1)) t910 t911) = some (r1, r2) := H
   have A10 := zA_ A100
   clear A100
   have H' := zA_ H
   clear H
   have p907 : 0 ≤ (x9_1 : Int) := zD_
   have q907 : x9_1 < (l0.length : Int) := zD_
   obtain ⟨ad907, e907, hx907_0⟩ := Kd.at_int HR0.out x9_1 p907 q907
   cases e907
   replace hx907_0 := (HB.out.cell (World.block_lt_of_cell? w _ hx907_0)).trans hx907_0
   replace p907 := eq_true p907
   replace q907 := eq_true q907
   try go_wp2
   replace BK905 := zA_ (blk_drew BK905.out)
   replace BK906 := zA_ (blk_drew BK906.out)
   replace HB := zA_ (below_drew1 HB.out)
   refine start_ (n := 5) (S := fun w' => w'.cell? ⟨gb906, 0, none⟩ = some (.int .i64 x907000_1) ∧ w'.cell? ⟨gb906, 1, none⟩ = some (.int .u64 x907001_1)) (ds := [4]) #[false, false, false, false, false] (by kernel_rfl) rfl rfl ⟨(blk_cell BK906.out 0).trans rfl, (blk_cell BK906.out 1).trans rfl⟩ (fun hHeld => ?_)
   generalize wr.drew = w11 at BK905 BK906 HB hHeld ⊢
   refine pure_ (i := 1) (N := some 14) (v := ?_) (a' := ?_) #[false, true, false, false, false] rfl rfl (by kernel_rfl) (fun _ _ _ h => h) (Or.inl ⟨by rfl, ?_⟩) ?_ ?_
   rotate_left
   ·intro w'
    go_simp
    with_reducible rfl
   rotate_left
   ·simp only [Act.put, List.setIfInBounds_toArray, List.set_cons_zero, List.set_cons_succ, i64_w, i32_w]
    rfl
   refine take_ (i := 0) (N := some 13) (v := ?_) (a' := ?_) #[true, true, false, false, false] rfl rfl (by kernel_rfl) (fun _ _ _ h => h) (Or.inl ⟨by rfl, ?_⟩) hHeld ?_ ?_
   rotate_left
   ·rintro w' ⟨s0, s1⟩
    go_simp
    with_reducible rfl
   rotate_left
   ·simp only [Act.put, List.setIfInBounds_toArray, List.set_cons_zero, List.set_cons_succ, i64_w, i32_w]
    rfl
   refine one_ (i := 2) (N := some 15) #[true, true, true, false, false] rfl rfl (by kernel_rfl) (by decide) (fun K hK => ?_)
   refine yg_ Tryz.func348 #[.int .i64 (rd l0 x9_1)] ?_
   with_reducible refine (wide_Of.calls (rd l0 x9_1) t908 t909 _ A9.out).mono ?_
   rintro e w12 ⟨rfl, hb⟩
   refine ⟨_, rfl, ?_⟩
   replace BK905 := za_ BK905 hb
   replace BK906 := za_ BK906 hb
   replace HB := zA_ (below_step (zw2_ HB GE905 GE906) hb)
   (try clear hb)
   (try clear hb2)
   (try clear hk)
   (try clear hi)
   refine hK.out _ _ ⟨zx_ BK906 0, zx_ BK906 1⟩ (fun hHeld => ?_)
   clear hK K
   refine zq_ (some 15) (h := ?_)
   refine one_ (i := 3) (N := some 16) #[true, true, true, true, false] rfl rfl (by kernel_rfl) (by decide) (fun K hK => ?_)
   refine yg_ Tryz.func328 #[.agg #[.int .i64 x907000_1, .int .u64 x907001_1], .agg #[.int .i64 t908, .int .u64 t909]] ?_
   with_reducible refine (wide_Add.calls x907000_1 x907001_1 t908 t909 t910 t911 _ A10.out).mono ?_
   rintro e w13 ⟨rfl, hb⟩
   refine ⟨_, rfl, ?_⟩
   replace BK905 := za_ BK905 hb
   replace BK906 := za_ BK906 hb
   replace HB := zA_ (below_step (zw2_ HB GE905 GE906) hb)
   (try clear hb)
   (try clear hb2)
   (try clear hk)
   (try clear hi)
   refine hK.out _ _ ⟨zx_ BK906 0, zx_ BK906 1⟩ (fun hHeld => ?_)
   clear hK K
   refine zq_ (some 16) (h := ?_)
   refine last_ (i := 4) (N := none) #[true, true, true, true, true] rfl rfl (by kernel_rfl) (by decide) (fun K hK => ?_)
   have hs14 := zx_ (v := .int .i64 x907000_1) BK906 0
   have hfs14 := blk_frozen BK906.out 0
   have hns14_0 := NB905_906.out
   have hms14_0 := NB906_905.out
   have hs15 := zx_ (v := .int .u64 x907001_1) BK906 1
   have hfs15 := blk_frozen BK906.out 1
   have hns15_0 := NB905_906.out
   have hms15_0 := NB906_905.out
   refine skip_ (w1 := ?_) (by rfl) rfl ?_ ?_
   rotate_left
   ·go_simp
    rfl
   refine hK.out _ _ ?_
   clear hK K
   refine done_ (by kernel_rfl) ?_
   try go_wp2
   go_roundg k1
   case measure => have := HK1.out; omega
   case rel => exact ⟨(wrap64 (x9_1 + 1)), (t910), (t911), z1_, H', ⟨by have := HK1.out; omega⟩, ⟨zv1_ BK905 NB905_906⟩, ⟨zo2_ BK906⟩, ⟨zw2_ HB GE905 GE906⟩⟩
def bits_Div64.f (a0 : Int) (a1 : Int) (a2 : Int) : Option (Int × Int) := if a2 = 0 then (none) else (if a2 ≤ a0 then (none) else (if a0 = 0 then (some (IntKind.u64.wrap (Int.tdiv a1 a2), Int.tmod a1 a2)) else (none)))
theorem bits_Div64.calls (a0 : Int) (a1 : Int) (a2 : Int) (r1 : Int) (r2 : Int) (w : World) (h : bits_Div64.f a0 a1 a2 = some (r1, r2)) :
  Calls Tryz.prog 373 #[.int .u64 a0, .int .u64 a1, .int .u64 a2] w fun e w' => e = .returned (.tuple #[.int .u64 r1, .int .u64 r2]) ∧ Drawn0 w w' := by
 have H : (if a2 = 0 then (none) else (if a2 ≤ a0 then (none) else (if a0 = 0 then (some (IntKind.u64.wrap (Int.tdiv a1 a2), Int.tmod a1 a2)) else (none)))) = some (r1, r2) := h
 clear h
 by_cases c4 : a2 = 0
 ·rw [if_pos c4] at H
  exact zN_ H
 rw [if_neg c4] at H
 have c4b0 : (a2 == 0) = false := beq_eq_false_iff_ne.mpr c4
 have c4b1 : (a2 != 0) = true := bne_iff_ne.mpr c4
 by_cases c5 : a2 ≤ a0
 ·rw [if_pos c5] at H
  exact zN_ H
 rw [if_neg c5] at H
 have c5b0 : decide (a2 ≤ a0) = false := decide_eq_false c5
 clear c5
 by_cases c6 : a0 = 0
 rotate_left
 ·rw [if_neg c6] at H
  exact zN_ H
 rw [if_pos c6] at H
 have c6b0 : (a0 == 0) = true := beq_iff_eq.mpr c6
 have c6b1 : (a0 != 0) = false := bne_eq_false_iff_eq.mpr c6
 clear c6
 simp only [Option.some.injEq, Prod.mk.injEq] at H
 obtain ⟨rfl, rfl⟩ := H
 go_enter Tryz.func373, Tryz.ntmps373
 go_wp2
 repeat (go_quiet (fail); try go_wp2)
 go_ret2
 exact ⟨z1_, zE_⟩
def wide_magnitude.f (a0_0 : Int) (a0_1 : Int) : Option (Int × Int × Bool) := if a0_0 < 0 then (none) else (some (IntKind.u64.wrap (a0_0), a0_1, false))
theorem wide_magnitude.calls (a0_0 : Int) (a0_1 : Int) (r1 : Int) (r2 : Int) (r3 : Bool) (w : World) (h : wide_magnitude.f a0_0 a0_1 = some (r1, r2, r3)) :
  Calls Tryz.prog 371 #[.agg #[.int .i64 a0_0, .int .u64 a0_1]] w fun e w' => e = .returned (.tuple #[.int .u64 r1, .int .u64 r2, .bool r3]) ∧ Below w.heap.size w w' := by
 have hu292 := Tryz.underlying292
 have HB := zA_ (Below.refl w.heap.size w)
 have H : (if a0_0 < 0 then (none) else (some (IntKind.u64.wrap (a0_0), a0_1, false))) = some (r1, r2, r3) := h
 clear h
 by_cases c2 : a0_0 < 0
 ·rw [if_pos c2] at H
  exact zN_ H
 rw [if_neg c2] at H
 have c2b0 : decide (a0_0 < 0) = false := decide_eq_false c2
 clear c2
 simp only [Option.some.injEq, Prod.mk.injEq] at H
 obtain ⟨rfl, rfl, rfl⟩ := H
 go_enter Tryz.func371, Tryz.ntmps371
 go_wp2_with (first | ((with_reducible refine gate_dst (N := 1) rfl ?_); refine zB_ (#[.int .i64 a0_0, .int .u64 a0_1]) 292 ?_; intro gb929 hg w3 hbox hb; have BK929 := zA_ (hbox); have GW929 := zA_ (zs_ hg (zw0_ HB)); have GE929 := zA_ (zs_ hg (zw0_ HB)); replace HB := zA_ (below_step (zw0_ HB) hb); clear hb hbox hg; have hcz4_0 := zx_ (v := .int .i64 a0_0) BK929 0; have hcz4_1 := zx_ (v := .int .u64 a0_1) BK929 1; have hfz4_0 := blk_frozen BK929.out 0; have hfz4_1 := blk_frozen BK929.out 1))
 repeat (go_quiet (first | ((with_reducible refine gate_dst (N := 1) rfl ?_); refine zB_ (#[.int .i64 a0_0, .int .u64 a0_1]) 292 ?_; intro gb929 hg w3 hbox hb; have BK929 := zA_ (hbox); have GW929 := zA_ (zs_ hg (zw0_ HB)); have GE929 := zA_ (zs_ hg (zw0_ HB)); replace HB := zA_ (below_step (zw0_ HB) hb); clear hb hbox hg; have hcz4_0 := zx_ (v := .int .i64 a0_0) BK929 0; have hcz4_1 := zx_ (v := .int .u64 a0_1) BK929 1; have hfz4_0 := blk_frozen BK929.out 0; have hfz4_1 := blk_frozen BK929.out 1)); try go_wp2_with (first | ((with_reducible refine gate_dst (N := 1) rfl ?_); refine zB_ (#[.int .i64 a0_0, .int .u64 a0_1]) 292 ?_; intro gb929 hg w3 hbox hb; have BK929 := zA_ (hbox); have GW929 := zA_ (zs_ hg (zw0_ HB)); have GE929 := zA_ (zs_ hg (zw0_ HB)); replace HB := zA_ (below_step (zw0_ HB) hb); clear hb hbox hg; have hcz4_0 := zx_ (v := .int .i64 a0_0) BK929 0; have hcz4_1 := zx_ (v := .int .u64 a0_1) BK929 1; have hfz4_0 := blk_frozen BK929.out 0; have hfz4_1 := blk_frozen BK929.out 1)))
 go_ret3
 exact ⟨z0_, zw1_ HB GE929⟩
end Go.Proofs.YtmddclifcgcpcaaGreatDoor.PTopNames
namespace Go.Proofs.YtmddclifcgcpcaaGreatDoor.PTopNames
open Go.RowKit Go.Proofs.YtmddclifcgcpcaaGreatDoorW.PrintWords Go.Proofs.YtmddclifcgcpcaaGreatDoorW.PrintLast Go.Proofs.YtmddclifcgcpcaaGreatDoorW.PrintMore
attribute [local go_sem] max2_int min2_int max_two min_two max_three min_three max_four min_four
def wide_Over.j0 : Nat → Bool → Int → Int → Bool → Option (Int)
 | 0, _, _, _, _ => none
 | k + 1, x7, x9, x11, x61 => if x61 = true then (none) else (if x7 = true then (none) else ((wide_Fix.f k (wrap64 (mn x9 9223372036854775807)) x11).bind fun t938 => (some t938)))
def wide_Over.f (k : Nat) (a0_0 : Int) (a0_1 : Int) (a1 : Int) : Option (Int) := if a1 = 0 then (none) else ((wide_magnitude.f a0_0 a0_1).bind fun bt931 => ((wide_size.f a1).bind fun t934 => (if t934 = 0 then (none) else ((bits_Div64.f (Int.tmod bt931.1 t934) bt931.2.1 t934).bind fun bt935 => (if bt935.2 > (IntKind.u64.wrap (t934 - bt935.2)) then (wide_Over.j0 k (bt931.2.2 != (decide (a1 < 0))) (IntKind.u64.wrap (Int.tdiv bt931.1 t934)) bt935.1 true) else (if bt935.2 = (IntKind.u64.wrap (t934 - bt935.2)) then (wide_Over.j0 k (bt931.2.2 != (decide (a1 < 0))) (IntKind.u64.wrap (Int.tdiv bt931.1 t934)) bt935.1 ((Go.bits .and .u64 bt935.1 1) == 1)) else (wide_Over.j0 k (bt931.2.2 != (decide (a1 < 0))) (IntKind.u64.wrap (Int.tdiv bt931.1 t934)) bt935.1 false)))))))
theorem wide_Over.calls (k : Nat) (a0_0 : Int) (a0_1 : Int) (a1 : Int) (r : Int) (w : World) (h : wide_Over.f k a0_0 a0_1 a1 = some r) :
  Calls Tryz.prog 347 #[.agg #[.int .i64 a0_0, .int .u64 a0_1], .int .i64 a1] w fun e w' => e = .returned (.int .i64 r) ∧ Below w.heap.size w w' := by
 have hu292 := Tryz.underlying292
 have HB := zA_ (Below.refl w.heap.size w)
 have H : (if a1 = 0 then (none) else ((wide_magnitude.f a0_0 a0_1).bind fun bt931 => ((wide_size.f a1).bind fun t934 => (if t934 = 0 then (none) else ((bits_Div64.f (Int.tmod bt931.1 t934) bt931.2.1 t934).bind fun bt935 => (if bt935.2 > (IntKind.u64.wrap (t934 - bt935.2)) then (wide_Over.j0 k (bt931.2.2 != (decide (a1 < 0))) (IntKind.u64.wrap (Int.tdiv bt931.1 t934)) bt935.1 true) else (if bt935.2 = (IntKind.u64.wrap (t934 - bt935.2)) then (wide_Over.j0 k (bt931.2.2 != (decide (a1 < 0))) (IntKind.u64.wrap (Int.tdiv bt931.1 t934)) bt935.1 ((Go.bits .and .u64 bt935.1 1) == 1)) else (wide_Over.j0 k (bt931.2.2 != (decide (a1 < 0))) (IntKind.u64.wrap (Int.tdiv bt931.1 t934)) bt935.1 false)))))))) = some r := h
 clear h
 by_cases c3 : a1 = 0
 ·rw [if_pos c3] at H
  exact zN_ H
 rw [if_neg c3] at H
 have c3b0 : (a1 == 0) = false := beq_eq_false_iff_ne.mpr c3
 have c3b1 : (a1 != 0) = true := bne_iff_ne.mpr c3
 replace H := zO_ H
 obtain ⟨⟨t931, t932, t933⟩, A40, H⟩ := H
 (try dsimp only at H)
 have A4 := zA_ A40
 clear A40
 replace H := zO_ H
 obtain ⟨t934, A50, H⟩ := H
 (try dsimp only at H)
 have A5 := zA_ A50
 clear A50
 by_cases c6 : t934 = 0
 ·rw [if_pos c6] at H
  exact zN_ H
 rw [if_neg c6] at H
 have c6b0 : (t934 == 0) = false := beq_eq_false_iff_ne.mpr c6
 have c6b1 : (t934 != 0) = true := bne_iff_ne.mpr c6
 replace H := zO_ H
 obtain ⟨⟨t935, t936⟩, A70, H⟩ := H
 (try dsimp only at H)
 have A7 := zA_ A70
 clear A70
 have HC8 := zA_ H
 clear H
 go_enter Tryz.func347, Tryz.ntmps347
 go_upto_region 8 with (first | ((with_reducible refine gate_dst (N := 2) rfl ?_); refine zB_ (#[.int .i64 a0_0, .int .u64 a0_1]) 292 ?_; intro gb930 hg w9 hbox hb; have BK930 := zA_ (hbox); have GW930 := zA_ (zs_ hg (zw0_ HB)); have GE930 := zA_ (zs_ hg (zw0_ HB)); replace HB := zA_ (below_step (zw0_ HB) hb); clear hb hbox hg; have hcz10_0 := zx_ (v := .int .i64 a0_0) BK930 0; have hcz10_1 := zx_ (v := .int .u64 a0_1) BK930 1; have hfz10_0 := blk_frozen BK930.out 0; have hfz10_1 := blk_frozen BK930.out 1) | (go_at_call 371; (with_reducible refine (wide_magnitude.calls a0_0 a0_1 t931 t932 t933 _ A4.out).mono ?_); rintro e w11 ⟨rfl, hb⟩; replace BK930 := za_ BK930 hb; replace HB := zA_ (below_step (zw1_ HB GE930) hb); (try clear hb)) | (go_at_call 372; (with_reducible refine (wide_size.calls a1 t934 _ A5.out).mono ?_); rintro e w' ⟨rfl, ⟨nd, rfl⟩⟩; (try first | exact ⟨rfl, _, World.drewN_drewN _ _ _⟩ | exact ⟨rfl, _, Eq.trans (World.drewN_drewN _ _ _) (congrArg (World.drewN _) (Nat.add_assoc _ _ _))⟩)) | (go_at_call 373; (with_reducible refine (bits_Div64.calls (Int.tmod t931 t934) t932 t934 t935 t936 _ A7.out).mono ?_); rintro e w' ⟨rfl, ⟨nd, rfl⟩⟩; (try first | exact ⟨rfl, _, World.drewN_drewN _ _ _⟩ | exact ⟨rfl, _, Eq.trans (World.drewN_drewN _ _ _) (congrArg (World.drewN _) (Nat.add_assoc _ _ _))⟩)))
 repeat (go_quiet (first | ((with_reducible refine gate_dst (N := 2) rfl ?_); refine zB_ (#[.int .i64 a0_0, .int .u64 a0_1]) 292 ?_; intro gb930 hg w9 hbox hb; have BK930 := zA_ (hbox); have GW930 := zA_ (zs_ hg (zw0_ HB)); have GE930 := zA_ (zs_ hg (zw0_ HB)); replace HB := zA_ (below_step (zw0_ HB) hb); clear hb hbox hg; have hcz10_0 := zx_ (v := .int .i64 a0_0) BK930 0; have hcz10_1 := zx_ (v := .int .u64 a0_1) BK930 1; have hfz10_0 := blk_frozen BK930.out 0; have hfz10_1 := blk_frozen BK930.out 1) | (go_at_call 371; (with_reducible refine (wide_magnitude.calls a0_0 a0_1 t931 t932 t933 _ A4.out).mono ?_); rintro e w11 ⟨rfl, hb⟩; replace BK930 := za_ BK930 hb; replace HB := zA_ (below_step (zw1_ HB GE930) hb); (try clear hb)) | (go_at_call 372; (with_reducible refine (wide_size.calls a1 t934 _ A5.out).mono ?_); rintro e w' ⟨rfl, ⟨nd, rfl⟩⟩; (try first | exact ⟨rfl, _, World.drewN_drewN _ _ _⟩ | exact ⟨rfl, _, Eq.trans (World.drewN_drewN _ _ _) (congrArg (World.drewN _) (Nat.add_assoc _ _ _))⟩)) | (go_at_call 373; (with_reducible refine (bits_Div64.calls (Int.tmod t931 t934) t932 t934 t935 t936 _ A7.out).mono ?_); rintro e w' ⟨rfl, ⟨nd, rfl⟩⟩; (try first | exact ⟨rfl, _, World.drewN_drewN _ _ _⟩ | exact ⟨rfl, _, Eq.trans (World.drewN_drewN _ _ _) (congrArg (World.drewN _) (Nat.add_assoc _ _ _))⟩))); go_upto_region 8 with (first | ((with_reducible refine gate_dst (N := 2) rfl ?_); refine zB_ (#[.int .i64 a0_0, .int .u64 a0_1]) 292 ?_; intro gb930 hg w9 hbox hb; have BK930 := zA_ (hbox); have GW930 := zA_ (zs_ hg (zw0_ HB)); have GE930 := zA_ (zs_ hg (zw0_ HB)); replace HB := zA_ (below_step (zw0_ HB) hb); clear hb hbox hg; have hcz10_0 := zx_ (v := .int .i64 a0_0) BK930 0; have hcz10_1 := zx_ (v := .int .u64 a0_1) BK930 1; have hfz10_0 := blk_frozen BK930.out 0; have hfz10_1 := blk_frozen BK930.out 1) | (go_at_call 371; (with_reducible refine (wide_magnitude.calls a0_0 a0_1 t931 t932 t933 _ A4.out).mono ?_); rintro e w11 ⟨rfl, hb⟩; replace BK930 := za_ BK930 hb; replace HB := zA_ (below_step (zw1_ HB GE930) hb); (try clear hb)) | (go_at_call 372; (with_reducible refine (wide_size.calls a1 t934 _ A5.out).mono ?_); rintro e w' ⟨rfl, ⟨nd, rfl⟩⟩; (try first | exact ⟨rfl, _, World.drewN_drewN _ _ _⟩ | exact ⟨rfl, _, Eq.trans (World.drewN_drewN _ _ _) (congrArg (World.drewN _) (Nat.add_assoc _ _ _))⟩)) | (go_at_call 373; (with_reducible refine (bits_Div64.calls (Int.tmod t931 t934) t932 t934 t935 t936 _ A7.out).mono ?_); rintro e w' ⟨rfl, ⟨nd, rfl⟩⟩; (try first | exact ⟨rfl, _, World.drewN_drewN _ _ _⟩ | exact ⟨rfl, _, Eq.trans (World.drewN_drewN _ _ _) (congrArg (World.drewN _) (Nat.add_assoc _ _ _))⟩))))
 (try simp only [Act.put, List.setIfInBounds_toArray, List.set_cons_zero, List.set_cons_succ])
 go_cut [61] (fun v61 wc => ∃ (kq : Nat) (x61_7 : Bool), v61 = .bool x61_7 ∧ Aside0 (wide_Over.j0 kq (t933 != (decide (a1 < 0))) (IntKind.u64.wrap (Int.tdiv t931 t934)) t935 x61_7 = some r) ∧ Aside0 (kq ≤ k) ∧ Aside0 (wc.heap[gb930]? = some (.cells #[.int .i64 a0_0, .int .u64 a0_1] 292 (0, 0))) ∧ Aside0 (Below w.heap.size w wc))
 case first =>
  have H := HC8.out
  clear HC8
  by_cases c12 : t936 > (IntKind.u64.wrap (t934 - t936))
  ·rw [if_pos c12] at H
   have c12b0 : decide ((IntKind.u64.wrap (t934 - t936)) < t936) = true := decide_eq_true c12
   clear c12
   (first | rw [c12b0] | (simp only [i64_w, i32_w]; rw [c12b0]) | skip)
   have H' := zA_ H
   clear H
   go_wp2
   repeat (go_quiet (fail); try go_wp2)
   go_meet
   case rel => exact ⟨_, (true), z1_, H', ⟨by first | omega | exact Nat.le_refl _⟩, ⟨zb_ BK930⟩, ⟨zw1_ HB GE930⟩⟩
  rw [if_neg c12] at H
  have c12b0 : decide ((IntKind.u64.wrap (t934 - t936)) < t936) = false := decide_eq_false c12
  clear c12
  (first | rw [c12b0] | (simp only [i64_w, i32_w]; rw [c12b0]) | skip)
  by_cases c13 : t936 = (IntKind.u64.wrap (t934 - t936))
  rotate_left
  ·rw [if_neg c13] at H
   have c13b0 : (t936 == (IntKind.u64.wrap (t934 - t936))) = false := beq_eq_false_iff_ne.mpr c13
   have c13b1 : (t936 != (IntKind.u64.wrap (t934 - t936))) = true := bne_iff_ne.mpr c13
   have H' := zA_ H
   clear H
   go_wp2
   repeat (go_quiet (fail); try go_wp2)
   go_meet
   case rel => exact ⟨_, (false), z1_, H', ⟨by first | omega | exact Nat.le_refl _⟩, ⟨zb_ BK930⟩, ⟨zw1_ HB GE930⟩⟩
  rw [if_pos c13] at H
  have c13b0 : (t936 == (IntKind.u64.wrap (t934 - t936))) = true := beq_iff_eq.mpr c13
  have c13b1 : (t936 != (IntKind.u64.wrap (t934 - t936))) = false := bne_eq_false_iff_eq.mpr c13
  clear c13
  have H' := zA_ H
  clear H
  go_wp2
  repeat (go_quiet (fail); try go_wp2)
  go_meet
  case rel => exact ⟨_, (((Go.bits .and .u64 t935 1) == 1)), z1_, H', ⟨by first | omega | exact Nat.le_refl _⟩, ⟨zb_ BK930⟩, ⟨zw1_ HB GE930⟩⟩
 case rest =>
  clear HC8
  try clear p2
  try clear c3b0
  try clear c3b1
  try clear c6b0
  try clear c6b1
  try clear c12b0
  try clear c13b0
  try clear c13b1
  try clear hcz10_0
  try clear hcz10_1
  try clear hfz10_0
  try clear hfz10_1
  obtain ⟨kq, x61_7, rfl, HA, HJ7, BK930, HB⟩ := hcut
  cases kq with
  | zero => exact absurd HA.out (by simp [wide_Over.j0])
  | succ kj7 =>
   have H := HA.out
   clear HA
   simp only [wide_Over.j0] at H
   by_cases c14 : x61_7 = true
   ·subst c14
    have H1 : (none) = some r := by rw [if_pos rfl] at H; exact H
    clear H
    have H := H1
    clear H1
    exact zN_ H
   replace c14 := Bool.eq_false_iff.mpr c14
   subst c14
   have H1 := H
   rw [if_neg (show ¬ (false = true) by decide)] at H1
   clear H
   have H := H1
   clear H1
   obtain ⟨ji15, hji15⟩ : ∃ j_ : Int, (mn (IntKind.u64.wrap (Int.tdiv t931 t934)) 9223372036854775807) = j_ := ⟨_, rfl⟩
   replace H : (if (t933 != (decide (a1 < 0))) = true then (none) else ((wide_Fix.f kj7 (wrap64 (ji15)) t935).bind fun t938 => (some t938))) = some r := by first | (rw [hji15] at H; exact H) | (simp only [hji15] at H ⊢; exact H)
   have hji15_ : (if 9223372036854775807 < (IntKind.u64.wrap (Int.tdiv t931 t934)) then 9223372036854775807 else (IntKind.u64.wrap (Int.tdiv t931 t934))) = ji15 := hji15
   by_cases c16 : (t933 != (decide (a1 < 0))) = true
   ·rw [if_pos c16] at H
    exact zN_ H
   rw [if_neg c16] at H
   have c16b0 : (t933 != (decide (a1 < 0))) = false := by simpa using c16
   (try (have c16b1 : decide (t933 = (decide (a1 < 0))) = true := by simpa using c16))
   (try (have c16b2 : (t933 == (decide (a1 < 0))) = true := by simpa using c16))
   clear c16
   replace H := zO_ H
   obtain ⟨t938, A170, H⟩ := H
   replace H : (some t938) = some r := H
   have A17 := zA_ A170
   clear A170
   obtain rfl := Option.some.inj H
   go_wp2_with (first | ((with_reducible refine gate_dst (N := 13) rfl ?_); refine zB_ (#[.int .i64 0, .int .u64 0]) 292 ?_; intro gb937 hg w18 hbox hb; have BK937 := zA_ (hbox); have GW937 := zA_ (zs_ hg (zw1_ HB GE930)); have GE937 := zA_ (zs_ hg (zw1_ HB GE930)); replace HB := zA_ (below_step (zw1_ HB GE930) hb); have NB930_937 := zA_ (zn_ hg BK930); have NB937_930 := zA_ (zm_ hg BK930); replace BK930 := za_ BK930 hb; clear hb hbox hg; have hnb19 := NB937_930.out; have hnc19 := NB930_937.out; have hcz20_0 := zx_ (v := .int .i64 0) BK937 0; have hcz20_1 := zx_ (v := .int .u64 0) BK937 1; have hfz20_0 := blk_frozen BK937.out 0; have hfz20_1 := blk_frozen BK937.out 1) | (go_at_call 374; (with_reducible refine (wide_Fix.calls kj7 (wrap64 (ji15)) t935 t938 _ A17.out).mono ?_); rintro e w21 ⟨rfl, hb⟩; replace BK930 := zA_ (blk_below (g := gb930) (o := .cells #[.int .i64 a0_0, .int .u64 a0_1] 292 (0, 0)) (zv1_ BK930 NB930_937) hb); replace BK937 := zA_ (blk_below (g := gb937) (o := .cells #[.int .i64 (wrap64 (ji15)), .int .u64 t935] 292 (0, 0)) (zo2_ BK937) hb); replace HB := zA_ (below_step (zw2_ HB GE930 GE937) hb); (try clear hb)))
   repeat (go_quiet (first | ((with_reducible refine gate_dst (N := 13) rfl ?_); refine zB_ (#[.int .i64 0, .int .u64 0]) 292 ?_; intro gb937 hg w18 hbox hb; have BK937 := zA_ (hbox); have GW937 := zA_ (zs_ hg (zw1_ HB GE930)); have GE937 := zA_ (zs_ hg (zw1_ HB GE930)); replace HB := zA_ (below_step (zw1_ HB GE930) hb); have NB930_937 := zA_ (zn_ hg BK930); have NB937_930 := zA_ (zm_ hg BK930); replace BK930 := za_ BK930 hb; clear hb hbox hg; have hnb19 := NB937_930.out; have hnc19 := NB930_937.out; have hcz20_0 := zx_ (v := .int .i64 0) BK937 0; have hcz20_1 := zx_ (v := .int .u64 0) BK937 1; have hfz20_0 := blk_frozen BK937.out 0; have hfz20_1 := blk_frozen BK937.out 1) | (go_at_call 374; (with_reducible refine (wide_Fix.calls kj7 (wrap64 (ji15)) t935 t938 _ A17.out).mono ?_); clear A17; rintro e w21 ⟨rfl, hb⟩; replace BK930 := zA_ (blk_below (g := gb930) (o := .cells #[.int .i64 a0_0, .int .u64 a0_1] 292 (0, 0)) (zv1_ BK930 NB930_937) hb); replace BK937 := zA_ (blk_below (g := gb937) (o := .cells #[.int .i64 (wrap64 (ji15)), .int .u64 t935] 292 (0, 0)) (zo2_ BK937) hb); replace HB := zA_ (below_step (zw2_ HB GE930 GE937) hb); (try clear hb))); try go_wp2_with (first | ((with_reducible refine gate_dst (N := 13) rfl ?_); refine zB_ (#[.int .i64 0, .int .u64 0]) 292 ?_; intro gb937 hg w18 hbox hb; have BK937 := zA_ (hbox); have GW937 := zA_ (zs_ hg (zw1_ HB GE930)); have GE937 := zA_ (zs_ hg (zw1_ HB GE930)); replace HB := zA_ (below_step (zw1_ HB GE930) hb); have NB930_937 := zA_ (zn_ hg BK930); have NB937_930 := zA_ (zm_ hg BK930); replace BK930 := za_ BK930 hb; clear hb hbox hg; have hnb19 := NB937_930.out; have hnc19 := NB930_937.out; have hcz20_0 := zx_ (v := .int .i64 0) BK937 0; have hcz20_1 := zx_ (v := .int .u64 0) BK937 1; have hfz20_0 := blk_frozen BK937.out 0; have hfz20_1 := blk_frozen BK937.out 1) | (go_at_call 374; (with_reducible refine (wide_Fix.calls kj7 (wrap64 (ji15)) t935 t938 _ A17.out).mono ?_); clear A17; rintro e w21 ⟨rfl, hb⟩; replace BK930 := zA_ (blk_below (g := gb930) (o := .cells #[.int .i64 a0_0, .int .u64 a0_1] 292 (0, 0)) (zv1_ BK930 NB930_937) hb); replace BK937 := zA_ (blk_below (g := gb937) (o := .cells #[.int .i64 (wrap64 (ji15)), .int .u64 t935] 292 (0, 0)) (zo2_ BK937) hb); replace HB := zA_ (below_step (zw2_ HB GE930 GE937) hb); (try clear hb))))
   go_ret
   exact ⟨by first | rfl | (simp [errW_none, errW_some] <;> rfl) | (simp only [← hji15]; first | rfl | (simp [errW_none, errW_some] <;> rfl)) | (simp [*, errW_none, errW_some] <;> rfl), zw2_ HB GE930 GE937⟩
def matm_Mean.f (k : Nat) (l0_0 : List Int) (l0_1 : List Int) : Option (Int × Int) := (tens_Good.f k l0_0 l0_1).bind fun t940 => (if t940 = true then ((matm_total.f k l0_1).bind fun bt941 => ((wide_Over.f k bt941.1 bt941.2 (l0_1.length : Int)).bind fun t943 => (some (t943, 0)))) else (none))
def matm_Mean.T3 : Bool × List (List Nat × List Nat) := (true, [([], []), ([0], [0]), ([1], [1]), ([], []), ([3], [3]), ([4], [4]), ([2, 5, 2], [2, 5]), ([6, 6, 0, 1, 2, 3, 4, 5, 6], [6]), ([7, 0, 1, 2, 3, 4, 5, 6, 7], [])])
def matm_Mean.B3 : List Nat := [0, 1, 3, 0, 8, 24, 63, 127, 255]
theorem matm_Mean.tab3 : rtab .any (opsOf Tryz.f390 3) = matm_Mean.T3 := by kernel_rfl
theorem matm_Mean.bits3 : waitsOk matm_Mean.T3.2 matm_Mean.B3 = true := by kernel_rfl
theorem matm_Mean.calls (k : Nat) (A0_0 : Option Addr) (c0_0 : Nat) (l0_0 : List Int) (A0_1 : Option Addr) (c0_1 : Nat) (l0_1 : List Int) (r1 : Int) (r2 : Int) (w : World) (hr0_0 : Kd.C (Kd.int .i64) w A0_0 l0_0.length l0_0) (hc0_0 : l0_0.length ≤ c0_0) (hr0_1 : Kd.C (Kd.int .i64) w A0_1 l0_1.length l0_1) (hc0_1 : l0_1.length ≤ c0_1) (h : matm_Mean.f k l0_0 l0_1 = some (r1, r2)) :
  Calls Tryz.prog 390 #[.agg #[.slice A0_0 l0_0.length c0_0, .slice A0_1 l0_1.length c0_1]] w fun e w' => e = .returned (.tuple #[.int .i64 r1, .int .i64 r2]) ∧ Below w.heap.size w w' := by
 have hu273 := Tryz.underlying273
 have HR0_0 := zA_ hr0_0
 have HC0_0 := zA_ hc0_0
 clear hr0_0 hc0_0
 have HR0_1 := zA_ hr0_1
 have HC0_1 := zA_ hc0_1
 clear hr0_1 hc0_1
 have HB := zA_ (Below.refl w.heap.size w)
 have H : ((tens_Good.f k l0_0 l0_1).bind fun t940 => (if t940 = true then ((matm_total.f k l0_1).bind fun bt941 => ((wide_Over.f k bt941.1 bt941.2 (l0_1.length : Int)).bind fun t943 => (some (t943, 0)))) else (none))) = some (r1, r2) := h
 clear h
 replace H := zO_ H
 obtain ⟨t940, A20, H⟩ := H
 (try dsimp only at H)
 have A2 := zA_ A20
 clear A20
 by_cases c3 : t940 = true
 rotate_left
 ·replace c3 := Bool.eq_false_iff.mpr c3
  subst c3
  have H1 : (none) = some (r1, r2) := by rw [if_neg (show ¬ (false = true) by decide)] at H; exact H
  clear H
  have H := H1
  clear H1
  exact zN_ H
 subst c3
 have H1 := H
 rw [if_pos rfl] at H1
 clear H
 have H := H1
 clear H1
 replace H := zO_ H
 obtain ⟨⟨t941, t942⟩, A40, H⟩ := H
 replace H : ((wide_Over.f k t941 t942 (l0_1.length : Int)).bind fun t943 => (some (t943, 0))) = some (r1, r2) := H
 have A4 := zA_ A40
 clear A40
 replace H := zO_ H
 obtain ⟨t943, A50, H⟩ := H
 replace H : (some (t943, 0)) = some (r1, r2) := H
 have A5 := zA_ A50
 clear A50
 simp only [Option.some.injEq, Prod.mk.injEq] at H
 obtain ⟨rfl, rfl⟩ := H
 go_enter Tryz.func390, Tryz.ntmps390
 try go_wp2_with (first | ((with_reducible refine gate_dst (N := 1) rfl ?_); refine zB_ (#[.slice A0_0 l0_0.length c0_0, .slice A0_1 l0_1.length c0_1]) 273 ?_; intro gb939 hg w6 hbox hb; have BK939 := zA_ (hbox); have GW939 := zA_ (zs_ hg (zw0_ HB)); have GE939 := zA_ (zs_ hg (zw0_ HB)); replace HB := zA_ (below_step (zw0_ HB) hb); clear hb hbox hg; have hcz7_0 := zx_ (v := .slice A0_0 l0_0.length c0_0) BK939 0; have hcz7_1 := zx_ (v := .slice A0_1 l0_1.length c0_1) BK939 1; have hfz7_0 := blk_frozen BK939.out 0; have hfz7_1 := blk_frozen BK939.out 1) | ((with_reducible refine gate_callee (f := 308) rfl ?_); refine zg_ (some 5) Tryz.func308 #[.agg #[.slice A0_0 l0_0.length c0_0, .slice A0_1 l0_1.length c0_1]] (h := ?_); (with_reducible refine (tens_Good.calls k _ _ l0_0 _ _ l0_1 true _ ?side1 ?side2 ?side3 ?side4 A2.out).mono ?_); (case side1 => exact zk_ (Kd.C_below HR0_0.out HB.out)); (case side2 => exact HC0_0.out); (case side3 => exact zk_ (Kd.C_below HR0_1.out HB.out)); (case side4 => exact HC0_1.out); rintro e w8 ⟨rfl, hb⟩; refine ⟨_, rfl, ?_⟩; replace BK939 := za_ BK939 hb; replace HB := zA_ (below_step (zw1_ HB GE939) hb); (try clear hb)))
 replace BK939 := zA_ (blk_drew BK939.out)
 replace HB := zA_ (below_drew1 HB.out)
 refine start_ (n := 9) (S := fun w' => w'.cell? ⟨gb939, 0, none⟩ = some (.slice A0_0 l0_0.length c0_0) ∧ w'.cell? ⟨gb939, 1, none⟩ = some (.slice A0_1 l0_1.length c0_1)) (ds := []) #[false, false, false, false, false, false, false, false, false] (by kernel_rfl) rfl rfl ⟨(blk_cell BK939.out 0).trans rfl, (blk_cell BK939.out 1).trans rfl⟩ (fun hHeld => ?_); refine with_tabW matm_Mean.tab3 matm_Mean.bits3 (fun HT_ HW_ => ?_)
 generalize w8.drew = w9 at BK939 HB hHeld ⊢
 refine yp_ ?_ 0 7
 refine yp_ ?_ 3 10
 refine yt2_ ?_ 1 8
 refine yt2_ ?_ 4 11
 refine yp_ ?_ 5 12
 refine yo_ 2 (some 9) (fun K hK => ?_)
 refine yg_ Tryz.func402 #[.slice A0_1 l0_1.length c0_1] ?_
 with_reducible refine (matm_total.calls k _ _ l0_1 t941 t942 _ ?side1 ?side2 A4.out).mono ?_
 (case side1 => exact zk_ (Kd.C_below HR0_1.out HB.out))
 (case side2 => exact HC0_1.out)
 rintro e w10 ⟨rfl, hb⟩
 refine ⟨_, rfl, ?_⟩
 replace BK939 := za_ BK939 hb
 replace HB := zA_ (below_step (zw1_ HB GE939) hb)
 (try clear hb)
 (try clear hb2)
 (try clear hk)
 (try clear hi)
 refine hK.out _ _ ⟨zx_ BK939 0, zx_ BK939 1⟩ (fun hHeld => ?_)
 clear hK K
 refine zq_ (some 9) (h := ?_)
 refine yo_ 6 (some 13) (fun K hK => ?_)
 refine yg_ Tryz.func347 #[.agg #[.int .i64 t941, .int .u64 t942], .int .i64 (l0_1.length : Int)] ?_
 with_reducible refine (wide_Over.calls k t941 t942 (l0_1.length : Int) t943 _ A5.out).mono ?_
 rintro e w11 ⟨rfl, hb⟩
 refine ⟨_, rfl, ?_⟩
 replace BK939 := za_ BK939 hb
 replace HB := zA_ (below_step (zw1_ HB GE939) hb)
 (try clear hb)
 (try clear hb2)
 (try clear hk)
 (try clear hi)
 refine hK.out _ _ ⟨zx_ BK939 0, zx_ BK939 1⟩ (fun hHeld => ?_)
 clear hK K
 refine zq_ (some 13) (h := ?_)
 refine yp_ ?_ 7 2
 refine yp_ ?_ 8 3
 refine done_ (done_of HT_.out (by kernel_rfl)) ?_
 try go_wp2
 go_ret2
 exact ⟨z0_, zw1_ HB GE939⟩
def tape_one.f (k : Nat) (a0 : Int) (l1_0 : List Int) (l1_1 : List Int) (a2 : Int) : Option (List Int × List Int × Int) := if a0 = 5 then (none) else (if a0 = 7 then (none) else (if a0 = 8 then ((matm_Sum.f k l1_0 l1_1 a2).bind fun bt969 => (some (bt969.1, bt969.2.1, bt969.2.2))) else (if a0 = 9 then (none) else (if a0 = 10 then ((matm_Mean.f k l1_0 l1_1).bind fun bt976 => ((tape_single.f k bt976.1 bt976.2).bind fun bt978 => (some (bt978.1, bt978.2.1, bt978.2.2)))) else (none)))))
theorem tape_one.calls (k : Nat) (a0 : Int) (A1_0 : Option Addr) (c1_0 : Nat) (l1_0 : List Int) (A1_1 : Option Addr) (c1_1 : Nat) (l1_1 : List Int) (a2 : Int) (r1 : List Int) (r2 : List Int) (r3 : Int) (w : World) (hr1_0 : Kd.C (Kd.int .i64) w A1_0 l1_0.length l1_0) (hc1_0 : l1_0.length ≤ c1_0) (hr1_1 : Kd.C (Kd.int .i64) w A1_1 l1_1.length l1_1) (hc1_1 : l1_1.length ≤ c1_1) (h : tape_one.f k a0 l1_0 l1_1 a2 = some (r1, r2, r3)) :
  Calls Tryz.prog 361 #[.int .i64 a0, .agg #[.slice A1_0 l1_0.length c1_0, .slice A1_1 l1_1.length c1_1], .int .i64 a2] w fun e w' => ∃ v0_ v1_ : Value, e = .returned (.tuple #[.agg #[v0_, v1_], .int .i64 r3]) ∧ Kd.R (Kd.int .i64) 3 w' w.heap.size (fun _ => True) v0_ r1 ∧ Kd.R (Kd.int .i64) 36 w' w.heap.size (fun _ => True) v1_ r2 ∧ Below w.heap.size w w' := by
 have hu273 := Tryz.underlying273
 have HR1_0 := zA_ hr1_0
 have HC1_0 := zA_ hc1_0
 clear hr1_0 hc1_0
 have HR1_1 := zA_ hr1_1
 have HC1_1 := zA_ hc1_1
 clear hr1_1 hc1_1
 have HB := zA_ (Below.refl w.heap.size w)
 have H : (if a0 = 5 then (none) else (if a0 = 7 then (none) else (if a0 = 8 then ((matm_Sum.f k l1_0 l1_1 a2).bind fun bt969 => (some (bt969.1, bt969.2.1, bt969.2.2))) else (if a0 = 9 then (none) else (if a0 = 10 then ((matm_Mean.f k l1_0 l1_1).bind fun bt976 => ((tape_single.f k bt976.1 bt976.2).bind fun bt978 => (some (bt978.1, bt978.2.1, bt978.2.2)))) else (none)))))) = some (r1, r2, r3) := h
 clear h
 by_cases c4 : a0 = 5
 ·rw [if_pos c4] at H
  exact zN_ H
 rw [if_neg c4] at H
 have c4b0 : (a0 == 5) = false := beq_eq_false_iff_ne.mpr c4
 have c4b1 : (a0 != 5) = true := bne_iff_ne.mpr c4
 by_cases c5 : a0 = 7
 ·rw [if_pos c5] at H
  exact zN_ H
 rw [if_neg c5] at H
 have c5b0 : (a0 == 7) = false := beq_eq_false_iff_ne.mpr c5
 have c5b1 : (a0 != 7) = true := bne_iff_ne.mpr c5
 by_cases c6 : a0 = 8
 ·rw [if_pos c6] at H
  have c6b0 : (a0 == 8) = true := beq_iff_eq.mpr c6
  have c6b1 : (a0 != 8) = false := bne_eq_false_iff_eq.mpr c6
  clear c6
  replace H := zO_ H
  obtain ⟨⟨t969, t972, t975⟩, A70, H⟩ := H
  replace H : (some (t969, t972, t975)) = some (r1, r2, r3) := H
  have A7 := zA_ A70
  clear A70
  simp only [Option.some.injEq, Prod.mk.injEq] at H
  obtain ⟨rfl, rfl, rfl⟩ := H
  go_enter Tryz.func361, Tryz.ntmps361
  go_wp2_with (first | ((with_reducible refine gate_dst (N := 4) rfl ?_); refine zB_ (#[.slice A1_0 l1_0.length c1_0, .slice A1_1 l1_1.length c1_1]) 273 ?_; intro gb967 hg w8 hbox hb; have BK967 := zA_ (hbox); have GW967 := zA_ (zs_ hg (zw0_ HB)); have GE967 := zA_ (zs_ hg (zw0_ HB)); replace HB := zA_ (below_step (zw0_ HB) hb); clear hb hbox hg) | ((with_reducible refine gate_dst (N := 6) rfl ?_); refine zB_ (#[.slice none 0 0, .slice none 0 0]) 273 ?_; intro gb968 hg w9 hbox hb; have BK968 := zA_ (hbox); have GW968 := zA_ (zs_ hg (zw1_ HB GE967)); have GE968 := zA_ (zs_ hg (zw1_ HB GE967)); replace HB := zA_ (below_step (zw1_ HB GE967) hb); have NB967_968 := zA_ (zn_ hg BK967); have NB968_967 := zA_ (zm_ hg BK967); replace BK967 := za_ BK967 hb; clear hb hbox hg; have hnb10 := NB967_968.out; have hnc10 := NB968_967.out; have hcz11_0 := zx_ (v := .slice A1_0 l1_0.length c1_0) BK967 0; have hcz11_1 := zx_ (v := .slice A1_1 l1_1.length c1_1) BK967 1; have hfz11_0 := blk_frozen BK967.out 0; have hfz11_1 := blk_frozen BK967.out 1) | ((with_reducible refine gate_callee (f := 387) rfl ?_); refine zg_ (some 29) Tryz.func387 #[.agg #[.slice A1_0 l1_0.length c1_0, .slice A1_1 l1_1.length c1_1], .int .i64 a2] (h := ?_); (with_reducible refine (matm_Sum.calls k _ _ l1_0 _ _ l1_1 a2 t969 t972 t975 _ ?side1 ?side2 ?side3 ?side4 A7.out).mono ?_); (case side1 => exact zk_ (Kd.C_below HR1_0.out HB.out)); (case side2 => exact HC1_0.out); (case side3 => exact zk_ (Kd.C_below HR1_1.out HB.out)); (case side4 => exact HC1_1.out); rintro e w12 ⟨v970, v973, rfl, ho0, ho1, hb⟩; refine ⟨_, rfl, ?_⟩; have HO971 := zA_ (Kd.R_lower ho0 (below_size (zw2_ HB GE967 GE968))); have HO974 := zA_ (Kd.R_lower ho1 (below_size (zw2_ HB GE967 GE968))); replace BK967 := za_ BK967 hb; replace BK968 := za_ BK968 hb; replace HB := zA_ (below_step (zw2_ HB GE967 GE968) hb); (try clear hb); (try clear ho0); (try clear ho1); obtain ⟨Ao13, co13, eo13⟩ := Kd.R_slice HO971.out; subst eo13; have hcz14_0 := zx_ (v := .slice none 0 0) BK968 0; have hcz14_1 := zx_ (v := .slice none 0 0) BK968 1; have hfz14_0 := blk_frozen BK968.out 0; have hfz14_1 := blk_frozen BK968.out 1; obtain ⟨Ao15, co15, eo15⟩ := Kd.R_slice HO974.out; subst eo15))
  refine bodyPost_ret (results_ct rfl _ _ gb968 273 #[.slice Ao13 t969.length co13, .slice Ao15 t972.length co15] (0, 0) _ rfl (zo2_ BK968) Tryz.underlying273 rfl (by kernel_rfl)) rfl ?_
  exact ⟨_, _, z0_, zr_ (Kd.R_mono (Kd.R_far (p := ⟨gb968, 1, none⟩) (Kd.R_far (p := ⟨gb968, 0, none⟩) (Kd.R_types HO971.out BK968.out (by decide)) (fun _ hk => hk.2) (.slice Ao13 t969.length co13)) (fun _ hk => hk.2) (.slice Ao15 t972.length co15)) (fun _ hk => trivial)), zr_ (Kd.R_mono (Kd.R_far (p := ⟨gb968, 1, none⟩) (Kd.R_far (p := ⟨gb968, 0, none⟩) (Kd.R_types HO974.out BK968.out (by decide)) (fun _ hk => hk.2) (.slice Ao13 t969.length co13)) (fun _ hk => hk.2) (.slice Ao15 t972.length co15)) (fun _ hk => trivial)), zw2_ HB GE967 GE968⟩
 rw [if_neg c6] at H
 have c6b0 : (a0 == 8) = false := beq_eq_false_iff_ne.mpr c6
 have c6b1 : (a0 != 8) = true := bne_iff_ne.mpr c6
 by_cases c16 : a0 = 9
 ·rw [if_pos c16] at H
  exact zN_ H
 rw [if_neg c16] at H
 have c16b0 : (a0 == 9) = false := beq_eq_false_iff_ne.mpr c16
 have c16b1 : (a0 != 9) = true := bne_iff_ne.mpr c16
 by_cases c17 : a0 = 10
 rotate_left
 ·rw [if_neg c17] at H
  exact zN_ H
 rw [if_pos c17] at H
 have c17b0 : (a0 == 10) = true := beq_iff_eq.mpr c17
 have c17b1 : (a0 != 10) = false := bne_eq_false_iff_eq.mpr c17
 clear c17
 replace H := zO_ H
 obtain ⟨⟨t976, t977⟩, A180, H⟩ := H
 replace H : ((tape_single.f k t976 t977).bind fun bt978 => (some (bt978.1, bt978.2.1, bt978.2.2))) = some (r1, r2, r3) := H
 have A18 := zA_ A180
 clear A180
 replace H := zO_ H
 obtain ⟨⟨t978, t981, t984⟩, A190, H⟩ := H
 replace H : (some (t978, t981, t984)) = some (r1, r2, r3) := H
 have A19 := zA_ A190
 clear A190
 simp only [Option.some.injEq, Prod.mk.injEq] at H
 obtain ⟨rfl, rfl, rfl⟩ := H
 go_enter Tryz.func361, Tryz.ntmps361
 go_wp2_with (first | ((with_reducible refine gate_dst (N := 4) rfl ?_); refine zB_ (#[.slice A1_0 l1_0.length c1_0, .slice A1_1 l1_1.length c1_1]) 273 ?_; intro gb967 hg w20 hbox hb; have BK967 := zA_ (hbox); have GW967 := zA_ (zs_ hg (zw0_ HB)); have GE967 := zA_ (zs_ hg (zw0_ HB)); replace HB := zA_ (below_step (zw0_ HB) hb); clear hb hbox hg) | ((with_reducible refine gate_dst (N := 6) rfl ?_); refine zB_ (#[.slice none 0 0, .slice none 0 0]) 273 ?_; intro gb968 hg w21 hbox hb; have BK968 := zA_ (hbox); have GW968 := zA_ (zs_ hg (zw1_ HB GE967)); have GE968 := zA_ (zs_ hg (zw1_ HB GE967)); replace HB := zA_ (below_step (zw1_ HB GE967) hb); have NB967_968 := zA_ (zn_ hg BK967); have NB968_967 := zA_ (zm_ hg BK967); replace BK967 := za_ BK967 hb; clear hb hbox hg; have hnb22 := NB967_968.out; have hnc22 := NB968_967.out; have hcz23_0 := zx_ (v := .slice A1_0 l1_0.length c1_0) BK967 0; have hcz23_1 := zx_ (v := .slice A1_1 l1_1.length c1_1) BK967 1; have hfz23_0 := blk_frozen BK967.out 0; have hfz23_1 := blk_frozen BK967.out 1) | ((with_reducible refine gate_callee (f := 390) rfl ?_); refine zg_ (some 44) Tryz.func390 #[.agg #[.slice A1_0 l1_0.length c1_0, .slice A1_1 l1_1.length c1_1]] (h := ?_); (with_reducible refine (matm_Mean.calls k _ _ l1_0 _ _ l1_1 t976 t977 _ ?side1 ?side2 ?side3 ?side4 A18.out).mono ?_); (case side1 => exact zk_ (Kd.C_below HR1_0.out HB.out)); (case side2 => exact HC1_0.out); (case side3 => exact zk_ (Kd.C_below HR1_1.out HB.out)); (case side4 => exact HC1_1.out); rintro e w24 ⟨rfl, hb⟩; refine ⟨_, rfl, ?_⟩; replace BK967 := za_ BK967 hb; replace BK968 := za_ BK968 hb; replace HB := zA_ (below_step (zw2_ HB GE967 GE968) hb); (try clear hb)) | ((with_reducible refine gate_callee (f := 388) rfl ?_); refine zg_ (some 47) Tryz.func388 #[.int .i64 t976, .int .i64 t977] (h := ?_); (with_reducible refine (tape_single.calls k t976 t977 t978 t981 t984 _ A19.out).mono ?_); rintro e w25 ⟨v979, v982, rfl, ho0, ho1, hb⟩; refine ⟨_, rfl, ?_⟩; have HO980 := zA_ (Kd.R_lower ho0 (below_size (zw2_ HB GE967 GE968))); have HO983 := zA_ (Kd.R_lower ho1 (below_size (zw2_ HB GE967 GE968))); replace BK967 := za_ BK967 hb; replace BK968 := za_ BK968 hb; replace HB := zA_ (below_step (zw2_ HB GE967 GE968) hb); (try clear hb); (try clear ho0); (try clear ho1); obtain ⟨Ao26, co26, eo26⟩ := Kd.R_slice HO980.out; subst eo26; have hcz27_0 := zx_ (v := .slice none 0 0) BK968 0; have hcz27_1 := zx_ (v := .slice none 0 0) BK968 1; have hfz27_0 := blk_frozen BK968.out 0; have hfz27_1 := blk_frozen BK968.out 1; obtain ⟨Ao28, co28, eo28⟩ := Kd.R_slice HO983.out; subst eo28))
 refine bodyPost_ret (results_ct rfl _ _ gb968 273 #[.slice Ao26 t978.length co26, .slice Ao28 t981.length co28] (0, 0) _ rfl (zo2_ BK968) Tryz.underlying273 rfl (by kernel_rfl)) rfl ?_
 exact ⟨_, _, z0_, zr_ (Kd.R_mono (Kd.R_far (p := ⟨gb968, 1, none⟩) (Kd.R_far (p := ⟨gb968, 0, none⟩) (Kd.R_types HO980.out BK968.out (by decide)) (fun _ hk => hk.2) (.slice Ao26 t978.length co26)) (fun _ hk => hk.2) (.slice Ao28 t981.length co28)) (fun _ hk => trivial)), zr_ (Kd.R_mono (Kd.R_far (p := ⟨gb968, 1, none⟩) (Kd.R_far (p := ⟨gb968, 0, none⟩) (Kd.R_types HO983.out BK968.out (by decide)) (fun _ hk => hk.2) (.slice Ao26 t978.length co26)) (fun _ hk => hk.2) (.slice Ao28 t981.length co28)) (fun _ hk => trivial)), zw2_ HB GE967 GE968⟩
mutual
def tens_Fold.j0 : Nat → List Int → Bool → List Int → List Int → Option (List Int × List Int × Int)
 | 0, _, _, _, _ => none
 | k + 1, x1, x20, x1021000, x1021001 => if x20 = true then (none) else ((shape_Join.f k x1 x1021000).bind fun bt1024 => (if bt1024.2 = 0 then ((shape_Same.f k bt1024.1 x1021000).bind fun t1028 => (tens_Fold.j1 k x1 (!t1028) x1021000 x1021001)) else (tens_Fold.j1 k x1 true x1021000 x1021001)))
def tens_Fold.j1 : Nat → List Int → Bool → List Int → List Int → Option (List Int × List Int × Int)
 | 0, _, _, _, _ => none
 | k + 1, x1, x37, x1021000, x1021001 => if x37 = true then (none) else ((tens_New.f k x1 0).bind fun bt1029 => ((shape_Spread.f k x1 x1021000).bind fun t1037 => (tens_Fold.l0 k t1037 x1021001 (x1021001.length : Int) 0 bt1029.1 bt1029.2.1)))
def tens_Fold.l0 : Nat → List Int → List Int → Int → Int → List Int → List Int → Option (List Int × List Int × Int)
 | 0, _, _, _, _, _, _ => none
 | k + 1, x10, x49, x50, x51, x1037000, x1037001 => if x51 < x50 then (if 0 ≤ x51 then (if x51 < (x49.length : Int) then (if x51 < (x10.length : Int) then (if 0 ≤ (rd x10 x51) then (if (rd x10 x51) < (x1037001.length : Int) then ((fix_Add.f k (rd x1037001 (rd x10 x51)) (rd x49 x51)).bind fun t1044 => (tens_Fold.l0 k x10 x49 x50 (wrap64 (x51 + 1)) x1037000 (x1037001.set ((rd x10 x51) : Int).toNat t1044))) else (none)) else (none)) else (none)) else (none)) else (none)) else (some (x1037000, x1037001, 0))
end
def tens_Fold.f (k : Nat) (l0_0 : List Int) (l0_1 : List Int) (l1 : List Int) : Option (List Int × List Int × Int) := (tens_Good.f k l0_0 l0_1).bind fun t1022 => (if t1022 = true then ((shape_Good.f k l1).bind fun t1023 => (tens_Fold.j0 k l1 (!t1023) l0_0 l0_1)) else (tens_Fold.j0 k l1 true l0_0 l0_1))
def tens_Fold.T11 : Bool × List (List Nat × List Nat) := (true, [([], []), ([0], [0]), ([], []), ([], []), ([2, 3], [2, 3]), ([4], [4]), ([], []), ([6], [6]), ([], []), ([], []), ([8, 9], [8, 9]), ([10], [10]), ([7, 11], [7, 11]), ([12], [12]), ([], []), ([13, 14], [13, 14]), ([1, 5, 0, 1, 2, 3, 4, 5, 6, 7, 8, 9, 10, 11, 12, 13, 14, 15], [1, 5]), ([16, 15, 15, 0, 1, 2, 3, 4, 5, 6, 7, 8, 9, 10, 11, 12, 13, 14, 15], [15, 16])])
def tens_Fold.B11 : List Nat := [0, 1, 0, 0, 12, 28, 0, 64, 0, 0, 768, 1792, 4032, 8128, 0, 32704, 65535, 131071]
theorem tens_Fold.tab11 : rtab .any (opsOf Tryz.f340 11) = tens_Fold.T11 := by kernel_rfl
theorem tens_Fold.bits11 : waitsOk tens_Fold.T11.2 tens_Fold.B11 = true := by kernel_rfl
theorem tens_Fold.calls (k : Nat) (A0_0 : Option Addr) (c0_0 : Nat) (l0_0 : List Int) (A0_1 : Option Addr) (c0_1 : Nat) (l0_1 : List Int) (A1 : Option Addr) (c1 : Nat) (l1 : List Int) (r1 : List Int) (r2 : List Int) (r3 : Int) (w : World) (hr0_0 : Kd.C (Kd.int .i64) w A0_0 l0_0.length l0_0) (hc0_0 : l0_0.length ≤ c0_0) (hr0_1 : Kd.C (Kd.int .i64) w A0_1 l0_1.length l0_1) (hc0_1 : l0_1.length ≤ c0_1) (hr1 : Kd.C (Kd.int .i64) w A1 l1.length l1) (hc1 : l1.length ≤ c1) (h : tens_Fold.f k l0_0 l0_1 l1 = some (r1, r2, r3)) :
  Calls Tryz.prog 340 #[.agg #[.slice A0_0 l0_0.length c0_0, .slice A0_1 l0_1.length c0_1], .slice A1 l1.length c1] w fun e w' => ∃ v0_ v1_ : Value, e = .returned (.tuple #[.agg #[v0_, v1_], .int .i64 r3]) ∧ Kd.R (Kd.int .i64) 3 w' w.heap.size (fun _ => True) v0_ r1 ∧ Kd.R (Kd.int .i64) 36 w' w.heap.size (fun _ => True) v1_ r2 ∧ Below w.heap.size w w' := by
 have hu273 := Tryz.underlying273
 have HR0_0 := zA_ hr0_0
 have HC0_0 := zA_ hc0_0
 clear hr0_0 hc0_0
 have HR0_1 := zA_ hr0_1
 have HC0_1 := zA_ hc0_1
 clear hr0_1 hc0_1
 have HR1 := zA_ hr1
 have HC1 := zA_ hc1
 clear hr1 hc1
 have HB := zA_ (Below.refl w.heap.size w)
 have H : ((tens_Good.f k l0_0 l0_1).bind fun t1022 => (if t1022 = true then ((shape_Good.f k l1).bind fun t1023 => (tens_Fold.j0 k l1 (!t1023) l0_0 l0_1)) else (tens_Fold.j0 k l1 true l0_0 l0_1))) = some (r1, r2, r3) := h
 clear h
 have HC3 := zA_ H
 clear H
 go_enter Tryz.func340, Tryz.ntmps340
 go_upto_region 1 with (first | ((with_reducible refine gate_dst (N := 2) rfl ?_); refine zB_ (#[.slice A0_0 l0_0.length c0_0, .slice A0_1 l0_1.length c0_1]) 273 ?_; intro gb1020 hg w4 hbox hb; have BK1020 := zA_ (hbox); have GW1020 := zA_ (zs_ hg (zw0_ HB)); have GE1020 := zA_ (zs_ hg (zw0_ HB)); replace HB := zA_ (below_step (zw0_ HB) hb); clear hb hbox hg) | ((with_reducible refine gate_dst (N := 4) rfl ?_); refine zB_ (#[.slice none 0 0, .slice none 0 0]) 273 ?_; intro gb1021 hg w5 hbox hb; have BK1021 := zA_ (hbox); have GW1021 := zA_ (zs_ hg (zw1_ HB GE1020)); have GE1021 := zA_ (zs_ hg (zw1_ HB GE1020)); replace HB := zA_ (below_step (zw1_ HB GE1020) hb); have NB1020_1021 := zA_ (zn_ hg BK1020); have NB1021_1020 := zA_ (zm_ hg BK1020); replace BK1020 := za_ BK1020 hb; clear hb hbox hg))
 (try simp only [Act.put, List.setIfInBounds_toArray, List.set_cons_zero, List.set_cons_succ])
 go_cut [20] (fun v20 wc => ∃ (kq : Nat) (x20_2 : Bool), v20 = .bool x20_2 ∧ Aside0 (tens_Fold.j0 kq l1 x20_2 l0_0 l0_1 = some (r1, r2, r3)) ∧ Aside0 (kq ≤ k) ∧ Aside0 (wc.heap[gb1020]? = some (.cells #[(.slice A0_0 l0_0.length c0_0), (.slice A0_1 l0_1.length c0_1)] 273 (0, 0))) ∧ Aside0 (wc.heap[gb1021]? = some (.cells #[(.slice none 0 0), (.slice none 0 0)] 273 (0, 0))) ∧ Aside0 (Below w.heap.size w wc))
 case first =>
  have H := HC3.out
  clear HC3
  replace H := zO_ H
  obtain ⟨t1022, A60, H⟩ := H
  (try dsimp only at H)
  have A6 := zA_ A60
  clear A60
  by_cases c7 : t1022 = true
  rotate_left
  ·replace c7 := Bool.eq_false_iff.mpr c7
   subst c7
   have H1 : (tens_Fold.j0 k l1 true l0_0 l0_1) = some (r1, r2, r3) := by rw [if_neg (show ¬ (false = true) by decide)] at H; exact H
   clear H
   have H := H1
   clear H1
   have H' := zA_ H
   clear H
   have hnb12 := NB1020_1021.out
   have hnc12 := NB1021_1020.out
   have hcz13_0 := zx_ (v := .slice A0_0 l0_0.length c0_0) BK1020 0
   have hcz13_1 := zx_ (v := .slice A0_1 l0_1.length c0_1) BK1020 1
   have hfz13_0 := blk_frozen BK1020.out 0
   have hfz13_1 := blk_frozen BK1020.out 1
   go_wp2_with (first | ((with_reducible refine gate_callee (f := 308) rfl ?_); refine zg_ (some 14) Tryz.func308 #[.agg #[.slice A0_0 l0_0.length c0_0, .slice A0_1 l0_1.length c0_1]] (h := ?_); (with_reducible refine (tens_Good.calls k _ _ l0_0 _ _ l0_1 false _ ?side1 ?side2 ?side3 ?side4 A6.out).mono ?_); (case side1 => exact zk_ (Kd.C_below HR0_0.out HB.out)); (case side2 => exact HC0_0.out); (case side3 => exact zk_ (Kd.C_below HR0_1.out HB.out)); (case side4 => exact HC0_1.out); rintro e w14 ⟨rfl, hb⟩; refine ⟨_, rfl, ?_⟩; replace BK1020 := za_ BK1020 hb; replace BK1021 := za_ BK1021 hb; replace HB := zA_ (below_step (zw2_ HB GE1020 GE1021) hb); (try clear hb)))
   go_meet
   case rel => exact ⟨_, (true), z1_, H', ⟨by first | omega | exact Nat.le_refl _⟩, ⟨zb_ BK1020⟩, ⟨zb_ BK1021⟩, ⟨zw2_ HB GE1020 GE1021⟩⟩
  subst c7
  have H1 : ((shape_Good.f k l1).bind fun t1023 => (tens_Fold.j0 k l1 (!t1023) l0_0 l0_1)) = some (r1, r2, r3) := by rw [if_pos rfl] at H; exact H
  clear H
  have H := H1
  clear H1
  replace H := zO_ H
  obtain ⟨t1023, A80, H⟩ := H
  replace H : (tens_Fold.j0 k l1 (!t1023) l0_0 l0_1) = some (r1, r2, r3) := H
  have A8 := zA_ A80
  clear A80
  have H' := zA_ H
  clear H
  have hnb9 := NB1020_1021.out
  have hnc9 := NB1021_1020.out
  have hcz10_0 := zx_ (v := .slice A0_0 l0_0.length c0_0) BK1020 0
  have hcz10_1 := zx_ (v := .slice A0_1 l0_1.length c0_1) BK1020 1
  have hfz10_0 := blk_frozen BK1020.out 0
  have hfz10_1 := blk_frozen BK1020.out 1
  go_wp2_with (first | ((with_reducible refine gate_callee (f := 308) rfl ?_); refine zg_ (some 14) Tryz.func308 #[.agg #[.slice A0_0 l0_0.length c0_0, .slice A0_1 l0_1.length c0_1]] (h := ?_); (with_reducible refine (tens_Good.calls k _ _ l0_0 _ _ l0_1 true _ ?side1 ?side2 ?side3 ?side4 A6.out).mono ?_); (case side1 => exact zk_ (Kd.C_below HR0_0.out HB.out)); (case side2 => exact HC0_0.out); (case side3 => exact zk_ (Kd.C_below HR0_1.out HB.out)); (case side4 => exact HC0_1.out); rintro e w11 ⟨rfl, hb⟩; refine ⟨_, rfl, ?_⟩; replace BK1020 := za_ BK1020 hb; replace BK1021 := za_ BK1021 hb; replace HB := zA_ (below_step (zw2_ HB GE1020 GE1021) hb); (try clear hb)) | (go_at_call 242; (with_reducible refine (shape_Good.calls k _ _ l1 t1023 _ ?side1 ?side2 A8.out).mono ?_); (case side1 => exact zk_ (Kd.C_below HR1.out HB.out)); (case side2 => exact HC1.out); rintro e w' ⟨rfl, ⟨nd, rfl⟩⟩))
  go_meet
  case rel => exact ⟨_, (!t1023), z1_, H', ⟨by first | omega | exact Nat.le_refl _⟩, ⟨zb_ BK1020⟩, ⟨zb_ BK1021⟩, ⟨zw2_ HB GE1020 GE1021⟩⟩
 case rest =>
  clear HC3
  try clear p2
  try clear hcz10_0
  try clear hcz10_1
  try clear hcz13_0
  try clear hcz13_1
  try clear hfz10_0
  try clear hfz10_1
  try clear hfz13_0
  try clear hfz13_1
  obtain ⟨kq, x20_2, rfl, HA, HJ2, BK1020, BK1021, HB⟩ := hcut
  cases kq with
  | zero => exact absurd HA.out (by simp [tens_Fold.j0])
  | succ kj2 =>
   have H := HA.out
   clear HA
   simp only [tens_Fold.j0] at H
   by_cases c15 : x20_2 = true
   ·subst c15
    have H1 : (none) = some (r1, r2, r3) := by rw [if_pos rfl] at H; exact H
    clear H
    have H := H1
    clear H1
    exact zN_ H
   replace c15 := Bool.eq_false_iff.mpr c15
   subst c15
   have H1 := H
   rw [if_neg (show ¬ (false = true) by decide)] at H1
   clear H
   have H := H1
   clear H1
   replace H := zO_ H
   obtain ⟨⟨t1024, t1025⟩, A160, H⟩ := H
   (try dsimp only at H)
   have A16 := zA_ A160
   clear A160
   have HC17 := zA_ H
   clear H
   have hnb18 := NB1020_1021.out
   have hnc18 := NB1021_1020.out
   have hcz19_0 := zx_ (v := .slice A0_0 l0_0.length c0_0) BK1020 0
   have hcz19_1 := zx_ (v := .slice A0_1 l0_1.length c0_1) BK1020 1
   have hfz19_0 := blk_frozen BK1020.out 0
   have hfz19_1 := blk_frozen BK1020.out 1
   go_upto_region 4 with (first | ((with_reducible refine gate_callee (f := 362) rfl ?_); refine zg_ (some 26) Tryz.func362 #[.slice A1 l1.length c1, .slice A0_0 l0_0.length c0_0] (h := ?_); (with_reducible refine (shape_Join.calls kj2 _ _ l1 _ _ l0_0 t1024 t1025 _ ?side1 ?side2 ?side3 ?side4 A16.out).mono ?_); (case side1 => exact zk_ (Kd.C_below HR1.out HB.out)); (case side2 => exact HC1.out); (case side3 => exact zk_ (Kd.C_below HR0_0.out HB.out)); (case side4 => exact HC0_0.out); rintro e w20 ⟨v1026, rfl, ho0, hb⟩; refine ⟨_, rfl, ?_⟩; have HO1027 := zA_ (Kd.R_lower ho0 (below_size (zw2_ HB GE1020 GE1021))); replace BK1020 := za_ BK1020 hb; replace BK1021 := za_ BK1021 hb; replace HB := zA_ (below_step (zw2_ HB GE1020 GE1021) hb); (try clear hb); (try clear ho0)))
   (try simp only [Act.put, List.setIfInBounds_toArray, List.set_cons_zero, List.set_cons_succ])
   go_cut [37] (fun v37 wc => ∃ (kq : Nat) (x37_16 : Bool), v37 = .bool x37_16 ∧ Aside0 (tens_Fold.j1 kq l1 x37_16 l0_0 l0_1 = some (r1, r2, r3)) ∧ Aside0 (kq ≤ kj2) ∧ Aside0 (wc.heap[gb1020]? = some (.cells #[(.slice A0_0 l0_0.length c0_0), (.slice A0_1 l0_1.length c0_1)] 273 (0, 0))) ∧ Aside0 (wc.heap[gb1021]? = some (.cells #[(.slice none 0 0), (.slice none 0 0)] 273 (0, 0))) ∧ Aside0 (Below w.heap.size w wc))
   case first =>
    have H := HC17.out
    clear HC17
    by_cases c21 : t1025 = 0
    rotate_left
    ·rw [if_neg c21] at H
     have c21b0 : (t1025 == 0) = false := beq_eq_false_iff_ne.mpr c21
     have c21b1 : (t1025 != 0) = true := bne_iff_ne.mpr c21
     (first | rw [c21b0] | (simp only [i64_w, i32_w]; rw [c21b0]) | skip)
     have H' := zA_ H
     clear H
     go_wp2
     go_meet
     case rel => exact ⟨_, (true), z1_, H', ⟨by have := HJ2.out; first | omega | exact Nat.le_refl _⟩, ⟨zb_ BK1020⟩, ⟨zb_ BK1021⟩, ⟨zw2_ HB GE1020 GE1021⟩⟩
    rw [if_pos c21] at H
    have c21b0 : (t1025 == 0) = true := beq_iff_eq.mpr c21
    have c21b1 : (t1025 != 0) = false := bne_eq_false_iff_eq.mpr c21
    clear c21
    (first | rw [c21b0] | (simp only [i64_w, i32_w]; rw [c21b0]) | skip)
    replace H := zO_ H
    obtain ⟨t1028, A220, H⟩ := H
    replace H : (tens_Fold.j1 kj2 l1 (!t1028) l0_0 l0_1) = some (r1, r2, r3) := H
    have A22 := zA_ A220
    clear A220
    have H' := zA_ H
    clear H
    have hnb23 := NB1020_1021.out
    have hnc23 := NB1021_1020.out
    have hcz24_0 := zx_ (v := .slice A0_0 l0_0.length c0_0) BK1020 0
    have hcz24_1 := zx_ (v := .slice A0_1 l0_1.length c0_1) BK1020 1
    have hfz24_0 := blk_frozen BK1020.out 0
    have hfz24_1 := blk_frozen BK1020.out 1
    obtain ⟨Ao25, co25, eo25⟩ := Kd.R_slice HO1027.out
    subst eo25
    go_wp2_with (first | (go_at_call 309; (with_reducible refine (shape_Same.calls kj2 _ _ t1024 _ _ l0_0 t1028 _ ?side1 ?side2 ?side3 ?side4 A22.out).mono ?_); (case side1 => exact zk_ ((Kd.R_reads' HO1027.out).2.2)); (case side2 => exact (Kd.R_reads' HO1027.out).2.1); (case side3 => exact zk_ (Kd.C_below HR0_0.out HB.out)); (case side4 => exact HC0_0.out); rintro e w' ⟨rfl, ⟨nd, rfl⟩⟩))
    go_meet
    case rel => exact ⟨_, (!t1028), z1_, H', ⟨by have := HJ2.out; first | omega | exact Nat.le_refl _⟩, ⟨zb_ BK1020⟩, ⟨zb_ BK1021⟩, ⟨zw2_ HB GE1020 GE1021⟩⟩
   case rest =>
    clear HC17
    try clear p2
    try clear c21b0
    try clear c21b1
    try clear hcz10_0
    try clear hcz10_1
    try clear hcz13_0
    try clear hcz13_1
    try clear hcz19_0
    try clear hcz19_1
    try clear hcz24_0
    try clear hcz24_1
    try clear hfz10_0
    try clear hfz10_1
    try clear hfz13_0
    try clear hfz13_1
    try clear hfz19_0
    try clear hfz19_1
    try clear hfz24_0
    try clear hfz24_1
    try clear p2
    obtain ⟨kq, x37_16, rfl, HA, HJ16, BK1020, BK1021, HB⟩ := hcut
    cases kq with
    | zero => exact absurd HA.out (by simp [tens_Fold.j1])
    | succ kj16 =>
     have H := HA.out
     clear HA
     simp only [tens_Fold.j1] at H
     by_cases c26 : x37_16 = true
     ·subst c26
      have H1 : (none) = some (r1, r2, r3) := by rw [if_pos rfl] at H; exact H
      clear H
      have H := H1
      clear H1
      exact zN_ H
     replace c26 := Bool.eq_false_iff.mpr c26
     subst c26
     have H1 := H
     rw [if_neg (show ¬ (false = true) by decide)] at H1
     clear H
     have H := H1
     clear H1
     replace H := zO_ H
     obtain ⟨⟨t1029, t1032, t1035⟩, A270, H⟩ := H
     (try dsimp only at H)
     have A27 := zA_ A270
     clear A270
     replace H := zO_ H
     obtain ⟨t1037, A280, H⟩ := H
     replace H : (tens_Fold.l0 kj16 t1037 l0_1 (l0_1.length : Int) 0 t1029 t1032) = some (r1, r2, r3) := H
     have A28 := zA_ A280
     clear A280
     have H' := zA_ H
     clear H
     go_wp2_with (first | ((with_reducible refine gate_callee (f := 250) rfl ?_); refine zg_ (some 41) Tryz.func250 #[.slice A1 l1.length c1, .int .i64 0] (h := ?_); (with_reducible refine (tens_New.calls kj16 _ _ l1 0 t1029 t1032 t1035 _ ?side1 ?side2 A27.out).mono ?_); (case side1 => exact zk_ (Kd.C_below HR1.out HB.out)); (case side2 => exact HC1.out); rintro e w29 ⟨v1030, v1033, rfl, ho0, ho1, hb⟩; refine ⟨_, rfl, ?_⟩; have HO1031 := zA_ (Kd.R_lower ho0 (below_size (zw2_ HB GE1020 GE1021))); have HO1034 := zA_ (Kd.R_lower ho1 (below_size (zw2_ HB GE1020 GE1021))); replace BK1020 := za_ BK1020 hb; replace BK1021 := za_ BK1021 hb; replace HB := zA_ (below_step (zw2_ HB GE1020 GE1021) hb); (try clear hb); (try clear ho0); (try clear ho1)) | ((with_reducible refine gate_dst (N := 8) rfl ?_); refine zB_ (#[.slice none 0 0, .slice none 0 0]) 273 ?_; intro gb1036 hg w30 hbox hb; replace HO1031 := zy_ HO1031 hb; replace HO1034 := zy_ HO1034 hb; have BK1036 := zA_ (hbox); have GW1036 := zA_ (zs_ hg (zw2_ HB GE1020 GE1021)); have GE1036 := zA_ (zs_ hg (zw2_ HB GE1020 GE1021)); replace HB := zA_ (below_step (zw2_ HB GE1020 GE1021) hb); have NB1020_1036 := zA_ (zn_ hg BK1020); have NB1036_1020 := zA_ (zm_ hg BK1020); replace BK1020 := za_ BK1020 hb; have NB1021_1036 := zA_ (zn_ hg BK1021); have NB1036_1021 := zA_ (zm_ hg BK1021); replace BK1021 := za_ BK1021 hb; clear hb hbox hg; obtain ⟨Ao31, co31, eo31⟩ := Kd.R_slice HO1031.out; subst eo31; have hnb32 := NB1036_1020.out; have hnc32 := NB1020_1036.out; have hnb33 := NB1036_1021.out; have hnc33 := NB1021_1036.out; have hcz34_0 := zx_ (v := .slice none 0 0) BK1036 0; have hcz34_1 := zx_ (v := .slice none 0 0) BK1036 1; have hfz34_0 := blk_frozen BK1036.out 0; have hfz34_1 := blk_frozen BK1036.out 1; obtain ⟨Ao35, co35, eo35⟩ := Kd.R_slice HO1034.out; subst eo35; have hnb36 := NB1020_1021.out; have hnc36 := NB1021_1020.out; have hcz37_0 := zx_ (v := .slice A0_0 l0_0.length c0_0) BK1020 0; have hcz37_1 := zx_ (v := .slice A0_1 l0_1.length c0_1) BK1020 1; have hfz37_0 := blk_frozen BK1020.out 0; have hfz37_1 := blk_frozen BK1020.out 1) | ((with_reducible refine gate_callee (f := 363) rfl ?_); refine zg_ (some 47) Tryz.func363 #[.slice A1 l1.length c1, .slice A0_0 l0_0.length c0_0] (h := ?_); (with_reducible refine (shape_Spread.calls kj16 _ _ l1 _ _ l0_0 t1037 _ ?side1 ?side2 ?side3 ?side4 A28.out).mono ?_); (case side1 => exact Kd.C_below HR1.out (zw3_ HB GE1020 GE1021 GE1036)); (case side2 => exact HC1.out); (case side3 => exact Kd.C_below HR0_0.out (zw3_ HB GE1020 GE1021 GE1036)); (case side4 => exact HC0_0.out); rintro e w38 ⟨v1038, rfl, ho0, hb⟩; refine ⟨_, rfl, ?_⟩; replace HO1034 := zA_ (Kd.R_below (zr_ ((zf_ HO1034 BK1036 (.slice Ao31 t1029.length co31) (.slice Ao35 t1032.length co35)))) hb); have HO1039 := zA_ (Kd.R_lower (Kd.R_new' ho0 (Kd.R_lt (zr_ ((zf_ HO1031 BK1036 (.slice Ao31 t1029.length co31) (.slice Ao35 t1032.length co35)))))) (below_size (zw3_ HB GE1020 GE1021 GE1036))); replace HO1031 := zA_ (Kd.R_elder' (zr_ ((zf_ HO1031 BK1036 (.slice Ao31 t1029.length co31) (.slice Ao35 t1032.length co35)))) (Kd.R_base ho0) hb); replace BK1020 := zA_ (blk_below (g := gb1020) (o := .cells #[.slice A0_0 l0_0.length c0_0, .slice A0_1 l0_1.length c0_1] 273 (0, 0)) (zv1_ BK1020 NB1020_1036) hb); replace BK1021 := zA_ (blk_below (g := gb1021) (o := .cells #[.slice none 0 0, .slice none 0 0] 273 (0, 0)) (zv1_ BK1021 NB1021_1036) hb); replace BK1036 := zA_ (blk_below (g := gb1036) (o := .cells #[.slice Ao31 t1029.length co31, .slice Ao35 t1032.length co35] 273 (0, 0)) (zo2_ BK1036) hb); replace HB := zA_ (below_step (zw3_ HB GE1020 GE1021 GE1036) hb); (try clear hb); (try clear hk); (try clear ho0); have hcz39_0 := zx_ (v := .slice A0_0 l0_0.length c0_0) BK1020 0; have hcz39_1 := zx_ (v := .slice A0_1 l0_1.length c0_1) BK1020 1; have hfz39_0 := blk_frozen BK1020.out 0; have hfz39_1 := blk_frozen BK1020.out 1))
     go_loopg [51] kj16 (fun kq v51 w' => ∃ (x51_3 : Int) (x1037001_3 : List Int) (u1037001 : Value), v51 = .int .i64 x51_3 ∧ Aside0 (tens_Fold.l0 kq t1037 l0_1 (l0_1.length : Int) x51_3 t1029 x1037001_3 = some (r1, r2, r3)) ∧ Aside0 (kq ≤ kj16) ∧ Aside0 (Kd.R (Kd.int .i64) 3 w' w.heap.size (fun k_ => some k_ ≠ ((.slice Ao31 t1029.length co31) : Value).ownBlock) v1038 t1037) ∧ Aside0 (Kd.R (Kd.int .i64) 3 w' w.heap.size (fun k_ => some k_ ≠ (v1038 : Value).ownBlock) (.slice Ao31 t1029.length co31) t1029) ∧ Aside0 (Kd.R (Kd.int .i64) 36 w' w.heap.size (fun _ => True) u1037001 x1037001_3) ∧ Aside0 (w'.heap[gb1020]? = some (.cells #[(.slice A0_0 l0_0.length c0_0), (.slice A0_1 l0_1.length c0_1)] 273 (0, 0))) ∧ Aside0 (w'.heap[gb1021]? = some (.cells #[(.slice none 0 0), (.slice none 0 0)] 273 (0, 0))) ∧ Aside0 (w'.heap[gb1036]? = some (.cells #[(.slice Ao31 t1029.length co31), u1037001] 273 (0, 0))) ∧ Aside0 (Below w.heap.size w w'))
     case atStart => exact ⟨(0), (t1032), (.slice Ao35 t1032.length co35), z1_, H', ⟨Nat.le_refl _⟩, ⟨zr_ (Kd.R_mono HO1039.out (fun _ hk => hk.2))⟩, ⟨zr_ (Kd.R_mono HO1031.out (fun _ hk => hk.2))⟩, ⟨zr_ HO1034.out⟩, ⟨zb_ BK1020⟩, ⟨zb_ BK1021⟩, ⟨zb_ BK1036⟩, ⟨zw3_ HB GE1020 GE1021 GE1036⟩⟩
     case round =>
      clear H'
      try clear p2
      try clear c21b0
      try clear c21b1
      try clear hcz10_0
      try clear hcz10_1
      try clear hcz13_0
      try clear hcz13_1
      try clear hcz19_0
      try clear hcz19_1
      try clear hcz24_0
      try clear hcz24_1
      try clear hcz34_0
      try clear hcz34_1
      try clear hcz37_0
      try clear hcz37_1
      try clear hcz39_0
      try clear hcz39_1
      try clear hfz10_0
      try clear hfz10_1
      try clear hfz13_0
      try clear hfz13_1
      try clear hfz19_0
      try clear hfz19_1
      try clear hfz24_0
      try clear hfz24_1
      try clear hfz34_0
      try clear hfz34_1
      try clear hfz37_0
      try clear hfz37_1
      try clear hfz39_0
      try clear hfz39_1
      try clear p2
      obtain ⟨x51_3, x1037001_3, u1037001, rfl, HA, HK3, HO_10, HO_1037000, HO_1037001, BK1020, BK1021, BK1036, HB⟩ := hrel
      cases gk with
      | zero => exact absurd HA.out (by simp [tens_Fold.l0])
      | succ k3 =>
       have H := HA.out
       clear HA
       simp only [tens_Fold.l0] at H
       by_cases c40 : x51_3 < (l0_1.length : Int)
       rotate_left
       ·rw [if_neg c40] at H
        have c40b0 : decide (x51_3 < (l0_1.length : Int)) = false := decide_eq_false c40
        clear c40
        simp only [Option.some.injEq, Prod.mk.injEq] at H
        obtain ⟨rfl, rfl, rfl⟩ := H
        have hnb52 := NB1036_1020.out
        have hnc52 := NB1020_1036.out
        have hnb53 := NB1036_1021.out
        have hnc53 := NB1021_1036.out
        have hcz54_0 := zx_ (v := .slice Ao31 t1029.length co31) BK1036 0
        have hcz54_1 := zx_ (v := u1037001) BK1036 1
        have hfz54_0 := blk_frozen BK1036.out 0
        have hfz54_1 := blk_frozen BK1036.out 1
        have hnb55 := NB1021_1020.out
        have hnc55 := NB1020_1021.out
        have hcz56_0 := zx_ (v := .slice none 0 0) BK1021 0
        have hcz56_1 := zx_ (v := .slice none 0 0) BK1021 1
        have hfz56_0 := blk_frozen BK1021.out 0
        have hfz56_1 := blk_frozen BK1021.out 1
        obtain ⟨Ao57, co57, eo57⟩ := Kd.R_slice HO_1037001.out
        subst eo57
        go_wp2
        refine bodyPost_ret (results_ct rfl _ _ gb1021 273 #[.slice Ao31 t1029.length co31, .slice Ao57 x1037001_3.length co57] (0, 0) _ rfl (zo2_ BK1021) Tryz.underlying273 rfl (by kernel_rfl)) rfl ?_
        exact ⟨_, _, z0_, zr_ (Kd.R_mono (Kd.R_far (p := ⟨gb1021, 1, none⟩) (Kd.R_far (p := ⟨gb1021, 0, none⟩) (Kd.R_types HO_1037000.out BK1021.out (by decide)) (fun _ hk => hk.2) (.slice Ao31 t1029.length co31)) (fun _ hk => hk.2) (.slice Ao57 x1037001_3.length co57)) (fun _ hk => trivial)), zr_ (Kd.R_mono (Kd.R_far (p := ⟨gb1021, 1, none⟩) (Kd.R_far (p := ⟨gb1021, 0, none⟩) (Kd.R_types HO_1037001.out BK1021.out (by decide)) (fun _ hk => hk.2) (.slice Ao31 t1029.length co31)) (fun _ hk => hk.2) (.slice Ao57 x1037001_3.length co57)) (fun _ hk => trivial)), zw3_ HB GE1020 GE1021 GE1036⟩
       rw [if_pos c40] at H
       have c40b0 : decide (x51_3 < (l0_1.length : Int)) = true := decide_eq_true c40
       clear c40
       by_cases c41 : 0 ≤ x51_3
       rotate_left
       ·rw [if_neg c41] at H
        exact zN_ H
       rw [if_pos c41] at H
       have c41b0 : decide (0 ≤ x51_3) = true := decide_eq_true c41
       clear c41
       by_cases c42 : x51_3 < (l0_1.length : Int)
       rotate_left
       ·rw [if_neg c42] at H
        exact zN_ H
       rw [if_pos c42] at H
       have c42b0 : decide (x51_3 < (l0_1.length : Int)) = true := decide_eq_true c42
       clear c42
       by_cases c43 : x51_3 < (t1037.length : Int)
       rotate_left
       ·rw [if_neg c43] at H
        exact zN_ H
       rw [if_pos c43] at H
       have c43b0 : decide (x51_3 < (t1037.length : Int)) = true := decide_eq_true c43
       clear c43
       by_cases c44 : 0 ≤ (rd t1037 x51_3)
       rotate_left
       ·rw [if_neg c44] at H
        exact zN_ H
       rw [if_pos c44] at H
       have c44b0 : decide (0 ≤ (rd t1037 x51_3)) = true := decide_eq_true c44
       clear c44
       by_cases c45 : (rd t1037 x51_3) < (x1037001_3.length : Int)
       rotate_left
       ·rw [if_neg c45] at H
        exact zN_ H
       rw [if_pos c45] at H
       have c45b0 : decide ((rd t1037 x51_3) < (x1037001_3.length : Int)) = true := decide_eq_true c45
       clear c45
       replace H := zO_ H
       obtain ⟨t1044, A460, H⟩ := H
       (try dsimp only at H)
       have A46 := zA_ A460
       clear A460
       obtain ⟨y1045, hy1045⟩ : ∃ y_ : List Int, y_ = (x1037001_3.set ((rd t1037 x51_3) : Int).toNat t1044) := ⟨_, rfl⟩
       replace H : (tens_Fold.l0 k3 t1037 l0_1 (l0_1.length : Int) (wrap64 (x51_3 + 1)) t1029 y1045) = some (r1, r2, r3) := by first | (rw [hy1045]; with_reducible exact H) | (have H2_ := (Option.bind_some _ _).symm.trans H; rw [hy1045]; with_reducible exact H2_) | (have H2_ := (Option.bind_some _ _).symm.trans H; with_reducible exact H2_) | with_reducible exact H | (rw [hy1045]; exact H) | exact H
       have Ny1045 := zA_ hy1045
       clear hy1045
       have H' := zA_ H
       clear H
       have p1040 : 0 ≤ (x51_3 : Int) := zD_
       have q1040 : x51_3 < (l0_1.length : Int) := zD_
       obtain ⟨ad1040, e1040, hx1040_0⟩ := Kd.at_int HR0_1.out x51_3 p1040 q1040
       cases e1040
       replace hx1040_0 := (HB.out.cell (World.block_lt_of_cell? w _ hx1040_0)).trans hx1040_0
       replace p1040 := eq_true p1040
       replace q1040 := eq_true q1040
       try go_wp2
       replace HO_10 := zA_ (Kd.R_drew HO_10.out)
       replace HO_1037000 := zA_ (Kd.R_drew HO_1037000.out)
       replace HO_1037001 := zA_ (Kd.R_drew HO_1037001.out)
       replace BK1020 := zA_ (blk_drew BK1020.out)
       replace BK1021 := zA_ (blk_drew BK1021.out)
       replace BK1036 := zA_ (blk_drew BK1036.out)
       replace HB := zA_ (below_drew1 HB.out)
       obtain ⟨Ao49, co49, eo49⟩ := Kd.R_slice HO_10.out
       (first | subst eo49 | (injection eo49 with f1_ f2_ f3_; have f4_ := f1_.symm; have f5_ := f3_.symm; clear f1_ f2_ f3_; subst f4_; subst f5_))
       have p1041 : 0 ≤ (x51_3 : Int) := zD_
       have q1041 : x51_3 < (t1037.length : Int) := zD_
       obtain ⟨ad1041, e1041, hx1041_0⟩ := Kd.at_int (Kd.R_reads' HO_10.out).2.2 x51_3 p1041 q1041
       cases e1041
       replace p1041 := eq_true p1041
       replace q1041 := eq_true q1041
       have p1042 : 0 ≤ (x51_3 : Int) := zD_
       have q1042 : x51_3 < (t1037.length : Int) := zD_
       obtain ⟨ad1042, e1042, hx1042_0⟩ := Kd.at_int (Kd.R_reads' HO_10.out).2.2 x51_3 p1042 q1042
       obtain rfl : ad1041 = ad1042 := (by injection e1042)
       replace p1042 := eq_true p1042
       replace q1042 := eq_true q1042
       obtain ⟨Ao50, co50, eo50⟩ := Kd.R_slice HO_1037001.out
       (first | subst eo50 | (injection eo50 with f1_ f2_ f3_; have f4_ := f1_.symm; have f5_ := f3_.symm; clear f1_ f2_ f3_; subst f4_; subst f5_))
       have p1043 : 0 ≤ ((rd t1037 x51_3) : Int) := zD_
       have q1043 : (rd t1037 x51_3) < (x1037001_3.length : Int) := zD_
       obtain ⟨ad1043, e1043, hx1043_0⟩ := Kd.at_int (Kd.R_reads' HO_1037001.out).2.2 (rd t1037 x51_3) p1043 q1043
       cases e1043
       replace p1043 := eq_true p1043
       replace q1043 := eq_true q1043
       refine start_ (n := 18) (S := fun w' => w'.cell? ⟨gb1036, 0, none⟩ = some (.slice Ao31 t1029.length co31) ∧ w'.cell? ⟨gb1036, 1, none⟩ = some (.slice (some ad1043) x1037001_3.length co50) ∧ w'.cell? (ad1041.add (x51_3).toNat) = some (.int .i64 (rd t1037 x51_3)) ∧ w'.cell? (ad1041.add (x51_3).toNat) = some (.int .i64 (rd t1037 x51_3)) ∧ w'.cell? (ad1043.add ((rd t1037 x51_3)).toNat) = some (.int .i64 (rd x1037001_3 (rd t1037 x51_3)))) (ds := [17]) #[false, false, false, false, false, false, false, false, false, false, false, false, false, false, false, false, false, false] (by kernel_rfl) rfl rfl ⟨(blk_cell BK1036.out 0).trans rfl, (blk_cell BK1036.out 1).trans rfl, hx1041_0, hx1042_0, hx1043_0⟩ (fun hHeld => ?_); refine with_tabW tens_Fold.tab11 tens_Fold.bits11 (fun HT_ HW_ => ?_)
       generalize wr.drew = w48 at HO_10 HO_1037000 HO_1037001 BK1020 BK1021 BK1036 HB hx1041_0 hx1042_0 hx1043_0 hHeld ⊢
       refine yp_ ?_ 0 56
       refine yp_ ?_ 2 58
       refine yp_ ?_ 3 59
       refine yp_ ?_ 4 60
       refine yp_ ?_ 6 62
       refine yp_ ?_ 8 64
       refine yp_ ?_ 9 65
       refine yp_ ?_ 10 66
       refine yp_ ?_ 14 70
       refine yt5_ ?_ 1 57
       refine yt5_ ?_ 5 61
       refine yt5_ ?_ 7 63
       refine yt5_ ?_ 11 67
       refine yp_ ?_ 12 68
       refine yt5_ ?_ 13 69
       refine yo_ 15 (some 71) (fun K hK => ?_)
       refine yg_ Tryz.func329 #[.int .i64 (rd x1037001_3 (rd t1037 x51_3)), .int .i64 (rd l0_1 x51_3)] ?_
       with_reducible refine (fix_Add.calls k3 (rd x1037001_3 (rd t1037 x51_3)) (rd l0_1 x51_3) t1044 _ A46.out).mono ?_
       rintro e w' ⟨rfl, ⟨nd, rfl⟩⟩
       refine ⟨_, rfl, ?_⟩
       have p47 : 0 ≤ ((rd t1037 x51_3) : Int) := zD_
       have q47 : ((rd t1037 x51_3) : Int) < ((x1037001_3.length : Int) : Int) := zD_
       obtain ⟨go47, co47, eo47, gb47, gl47, cl47, HG47⟩ := Kd.R_form HO_1037001.out (by omega)
       (first | cases eo47 | (injection eo47 with ea_ en_ ec_; (first | subst ea_ | (injection ea_ with ea_; subst ea_)); subst ec_; clear en_))
       have GB47 := zA_ gb47
       have GG47 := zA_ HG47
       clear gb47 gl47 HG47
       (first | simp only [add_plain] at hx1043_0 | skip)
       obtain ⟨hx47_0, hf47_0⟩ := Kd.R_celln 0 HO_1037001.out ((rd t1037 x51_3) : Int) p47 q47
       replace p47 := eq_true p47
       replace q47 := eq_true q47
       have HP51 := Kd.R_putn HO_1037001.out ((rd t1037 x51_3) : Int) t1044
       rw [← Ny1045.out] at HP51
       have HQ51 := zA_ HP51
       clear HP51
       refine hK.out _ _ ⟨(blk_cell BK1036.out 0).trans rfl, (blk_cell BK1036.out 1).trans rfl, hHeld.2.2.1, hHeld.2.2.2.1, hHeld.2.2.2.2⟩ (fun hHeld => ?_)
       clear hK K
       refine zq_ (some 71) (h := ?_)
       refine yp_ ?_ 16 72
       refine yl_ 17 none (fun K hK => ?_)
       refine skip_ (w1 := ?_) (by rfl) rfl ?_ ?_
       rotate_left
       ·go_simp
        rfl
       refine hK.out _ _ ?_
       clear hK K
       refine done_ (done_of HT_.out (by kernel_rfl)) ?_
       try go_wp2
       go_roundg k3
       case measure => have := HJ2.out; have := HJ16.out; have := HK3.out; omega
       case rel => exact ⟨(wrap64 (x51_3 + 1)), (y1045), (.slice (some ⟨go47, 0, none⟩) x1037001_3.length co50), z1_, H', ⟨by have := HJ2.out; have := HJ16.out; have := HK3.out; omega⟩, ⟨zr_ (Kd.R_mono (Kd.R_far (p := ⟨go47, ((rd t1037 x51_3) : Int).toNat, none⟩) (Kd.R_types HO_10.out GG47.out (by decide)) (fun _ hk => hk.2) (.int .i64 t1044)) (fun _ hk => hk.1))⟩, ⟨zr_ (Kd.R_mono (Kd.R_far (p := ⟨go47, ((rd t1037 x51_3) : Int).toNat, none⟩) (Kd.R_types HO_1037000.out GG47.out (by decide)) (fun _ hk => hk.2) (.int .i64 t1044)) (fun _ hk => hk.1))⟩, ⟨zr_ HQ51.out⟩, ⟨by (with_reducible repeat (first | refine blk_drewN ?_ _ | refine blk_drew ?_ | refine blk_alloc ?_ _)); refine blk_far ?_ (by have h_ := Kd.R_ne HO_1037001.out BK1020.out (by decide); intro e_; exact h_ (by rw [e_]; rfl)) _; (with_reducible repeat (first | refine blk_drewN ?_ _ | refine blk_drew ?_ | refine blk_alloc ?_ _)); exact BK1020.out⟩, ⟨by (with_reducible repeat (first | refine blk_drewN ?_ _ | refine blk_drew ?_ | refine blk_alloc ?_ _)); refine blk_far ?_ (by have h_ := Kd.R_ne HO_1037001.out BK1021.out (by decide); intro e_; exact h_ (by rw [e_]; rfl)) _; (with_reducible repeat (first | refine blk_drewN ?_ _ | refine blk_drew ?_ | refine blk_alloc ?_ _)); exact BK1021.out⟩, ⟨by (with_reducible repeat (first | refine blk_drewN ?_ _ | refine blk_drew ?_ | refine blk_alloc ?_ _)); refine blk_far ?_ (by have h_ := Kd.R_ne HO_1037001.out BK1036.out (by decide); intro e_; exact h_ (by rw [e_]; rfl)) _; (with_reducible repeat (first | refine blk_drewN ?_ _ | refine blk_drew ?_ | refine blk_alloc ?_ _)); exact BK1036.out⟩, ⟨by repeat (first | (with_reducible first | exact HB.out | apply below_alloc | apply pw_below_drewN | apply below_drew1 | refine below_set ?_ GB47.out | refine below_set ?_ GE1020.out | refine below_set ?_ GE1021.out | refine below_set ?_ GE1036.out) | exact HB.out)⟩⟩
def back_folded.f (k : Nat) (l0_0 : List Int) (l0_1 : List Int) (a1 : Int) (l2 : List Int) : Option (List Int × List Int × Int) := if a1 = 0 then ((tens_Fold.f k l0_0 l0_1 l2).bind fun bt1048 => (some (bt1048.1, bt1048.2.1, bt1048.2.2))) else (none)
theorem back_folded.calls (k : Nat) (A0_0 : Option Addr) (c0_0 : Nat) (l0_0 : List Int) (A0_1 : Option Addr) (c0_1 : Nat) (l0_1 : List Int) (a1 : Int) (A2 : Option Addr) (c2 : Nat) (l2 : List Int) (r1 : List Int) (r2 : List Int) (r3 : Int) (w : World) (hr0_0 : Kd.C (Kd.int .i64) w A0_0 l0_0.length l0_0) (hc0_0 : l0_0.length ≤ c0_0) (hr0_1 : Kd.C (Kd.int .i64) w A0_1 l0_1.length l0_1) (hc0_1 : l0_1.length ≤ c0_1) (hr2 : Kd.C (Kd.int .i64) w A2 l2.length l2) (hc2 : l2.length ≤ c2) (h : back_folded.f k l0_0 l0_1 a1 l2 = some (r1, r2, r3)) :
  Calls Tryz.prog 342 #[.agg #[.slice A0_0 l0_0.length c0_0, .slice A0_1 l0_1.length c0_1], .int .i64 a1, .slice A2 l2.length c2] w fun e w' => ∃ v0_ v1_ : Value, e = .returned (.tuple #[.agg #[v0_, v1_], .int .i64 r3]) ∧ Kd.R (Kd.int .i64) 3 w' w.heap.size (fun _ => True) v0_ r1 ∧ Kd.R (Kd.int .i64) 36 w' w.heap.size (fun _ => True) v1_ r2 ∧ Below w.heap.size w w' := by
 have hu273 := Tryz.underlying273
 have HR0_0 := zA_ hr0_0
 have HC0_0 := zA_ hc0_0
 clear hr0_0 hc0_0
 have HR0_1 := zA_ hr0_1
 have HC0_1 := zA_ hc0_1
 clear hr0_1 hc0_1
 have HR2 := zA_ hr2
 have HC2 := zA_ hc2
 clear hr2 hc2
 have HB := zA_ (Below.refl w.heap.size w)
 have H : (if a1 = 0 then ((tens_Fold.f k l0_0 l0_1 l2).bind fun bt1048 => (some (bt1048.1, bt1048.2.1, bt1048.2.2))) else (none)) = some (r1, r2, r3) := h
 clear h
 by_cases c4 : a1 = 0
 rotate_left
 ·rw [if_neg c4] at H
  exact zN_ H
 rw [if_pos c4] at H
 have c4b0 : (a1 == 0) = true := beq_iff_eq.mpr c4
 have c4b1 : (a1 != 0) = false := bne_eq_false_iff_eq.mpr c4
 clear c4
 replace H := zO_ H
 obtain ⟨⟨t1048, t1051, t1054⟩, A50, H⟩ := H
 replace H : (some (t1048, t1051, t1054)) = some (r1, r2, r3) := H
 have A5 := zA_ A50
 clear A50
 simp only [Option.some.injEq, Prod.mk.injEq] at H
 obtain ⟨rfl, rfl, rfl⟩ := H
 go_enter Tryz.func342, Tryz.ntmps342
 go_wp2_with (first | ((with_reducible refine gate_dst (N := 3) rfl ?_); refine zB_ (#[.slice A0_0 l0_0.length c0_0, .slice A0_1 l0_1.length c0_1]) 273 ?_; intro gb1046 hg w6 hbox hb; have BK1046 := zA_ (hbox); have GW1046 := zA_ (zs_ hg (zw0_ HB)); have GE1046 := zA_ (zs_ hg (zw0_ HB)); replace HB := zA_ (below_step (zw0_ HB) hb); clear hb hbox hg) | ((with_reducible refine gate_dst (N := 6) rfl ?_); refine zB_ (#[.slice none 0 0, .slice none 0 0]) 273 ?_; intro gb1047 hg w7 hbox hb; have BK1047 := zA_ (hbox); have GW1047 := zA_ (zs_ hg (zw1_ HB GE1046)); have GE1047 := zA_ (zs_ hg (zw1_ HB GE1046)); replace HB := zA_ (below_step (zw1_ HB GE1046) hb); have NB1046_1047 := zA_ (zn_ hg BK1046); have NB1047_1046 := zA_ (zm_ hg BK1046); replace BK1046 := za_ BK1046 hb; clear hb hbox hg; have hnb8 := NB1046_1047.out; have hnc8 := NB1047_1046.out; have hcz9_0 := zx_ (v := .slice A0_0 l0_0.length c0_0) BK1046 0; have hcz9_1 := zx_ (v := .slice A0_1 l0_1.length c0_1) BK1046 1; have hfz9_0 := blk_frozen BK1046.out 0; have hfz9_1 := blk_frozen BK1046.out 1) | ((with_reducible refine gate_callee (f := 340) rfl ?_); refine zg_ (some 14) Tryz.func340 #[.agg #[.slice A0_0 l0_0.length c0_0, .slice A0_1 l0_1.length c0_1], .slice A2 l2.length c2] (h := ?_); (with_reducible refine (tens_Fold.calls k _ _ l0_0 _ _ l0_1 _ _ l2 t1048 t1051 t1054 _ ?side1 ?side2 ?side3 ?side4 ?side5 ?side6 A5.out).mono ?_); (case side1 => exact zk_ (Kd.C_below HR0_0.out HB.out)); (case side2 => exact HC0_0.out); (case side3 => exact zk_ (Kd.C_below HR0_1.out HB.out)); (case side4 => exact HC0_1.out); (case side5 => exact zk_ (Kd.C_below HR2.out HB.out)); (case side6 => exact HC2.out); rintro e w10 ⟨v1049, v1052, rfl, ho0, ho1, hb⟩; refine ⟨_, rfl, ?_⟩; have HO1050 := zA_ (Kd.R_lower ho0 (below_size (zw2_ HB GE1046 GE1047))); have HO1053 := zA_ (Kd.R_lower ho1 (below_size (zw2_ HB GE1046 GE1047))); replace BK1046 := za_ BK1046 hb; replace BK1047 := za_ BK1047 hb; replace HB := zA_ (below_step (zw2_ HB GE1046 GE1047) hb); (try clear hb); (try clear ho0); (try clear ho1); obtain ⟨Ao11, co11, eo11⟩ := Kd.R_slice HO1050.out; subst eo11; have hcz12_0 := zx_ (v := .slice none 0 0) BK1047 0; have hcz12_1 := zx_ (v := .slice none 0 0) BK1047 1; have hfz12_0 := blk_frozen BK1047.out 0; have hfz12_1 := blk_frozen BK1047.out 1; obtain ⟨Ao13, co13, eo13⟩ := Kd.R_slice HO1053.out; subst eo13))
 refine bodyPost_ret (results_ct rfl _ _ gb1047 273 #[.slice Ao11 t1048.length co11, .slice Ao13 t1051.length co13] (0, 0) _ rfl (zo2_ BK1047) Tryz.underlying273 rfl (by kernel_rfl)) rfl ?_
 exact ⟨_, _, z0_, zr_ (Kd.R_mono (Kd.R_far (p := ⟨gb1047, 1, none⟩) (Kd.R_far (p := ⟨gb1047, 0, none⟩) (Kd.R_types HO1050.out BK1047.out (by decide)) (fun _ hk => hk.2) (.slice Ao11 t1048.length co11)) (fun _ hk => hk.2) (.slice Ao13 t1051.length co13)) (fun _ hk => trivial)), zr_ (Kd.R_mono (Kd.R_far (p := ⟨gb1047, 1, none⟩) (Kd.R_far (p := ⟨gb1047, 0, none⟩) (Kd.R_types HO1053.out BK1047.out (by decide)) (fun _ hk => hk.2) (.slice Ao11 t1048.length co11)) (fun _ hk => hk.2) (.slice Ao13 t1051.length co13)) (fun _ hk => trivial)), zw2_ HB GE1046 GE1047⟩
def back_spread.l0 : Nat → List Int → Int → Int → Int → List Int → List Int → List Int → List Int → Option (List Int × List Int)
 | 0, _, _, _, _, _, _, _, _ => none
 | k + 1, x1, x2, x22, x23, x1089000, x1089001, x1098000, x1098001 => if x23 < x22 then ((shape_Place.f k x1 x23).bind fun bt1098 => ((some (([] : List Int) : List Int)).bind fun y1102 => (if 0 ≤ x2 then (if x2 ≤ (bt1098.1.length : Int) then ((some (bt1098.1.take (x2 : Int).toNat : List Int)).bind fun y1105 => (if y1102.length + y1105.length < 17592186044416 then ((some (y1102 ++ y1105 : List Int)).bind fun y1109 => (if 0 ≤ (wrap64 (x2 + 1)) then (if (wrap64 (x2 + 1)) ≤ (bt1098.1.length : Int) then ((some (bt1098.1.drop ((wrap64 (x2 + 1)) : Int).toNat : List Int)).bind fun y1112 => (if y1109.length + y1112.length < 17592186044416 then ((shape_At.f k x1089000 (y1109 ++ y1112)).bind fun bt1119 => (if 0 ≤ bt1119.1 then (if bt1119.1 < (x1089001.length : Int) then (if 0 ≤ x23 then (if x23 < (x1098001.length : Int) then (back_spread.l0 k x1 x2 x22 (wrap64 (x23 + 1)) x1089000 x1089001 x1098000 (x1098001.set (x23 : Int).toNat (rd x1089001 bt1119.1))) else (none)) else (none)) else (none)) else (none))) else (none))) else (none)) else (none))) else (none))) else (none)) else (none)))) else (some (x1098000, x1098001))
def back_spread.f (k : Nat) (l0_0 : List Int) (l0_1 : List Int) (l1 : List Int) (a2 : Int) : Option (List Int × List Int) := (tens_New.f k l1 0).bind fun bt1090 => (back_spread.l0 k l1 a2 (bt1090.2.1.length : Int) 0 l0_0 l0_1 bt1090.1 bt1090.2.1)
def back_spread.T6 : Bool × List (List Nat × List Nat) := (true, [([], []), ([], []), ([], []), ([1, 2], [1, 2]), ([0, 3], [0, 3]), ([], []), ([], []), ([6], [6]), ([5, 7], [5, 7]), ([4, 8, 4], [4, 8]), ([9, 9, 0, 1, 2, 3, 4, 5, 6, 7, 8, 9], [9])])
def back_spread.B6 : List Nat := [0, 0, 0, 6, 15, 0, 0, 64, 224, 511, 1023]
theorem back_spread.tab6 : rtab .any (opsOf Tryz.f346 6) = back_spread.T6 := by kernel_rfl
theorem back_spread.bits6 : waitsOk back_spread.T6.2 back_spread.B6 = true := by kernel_rfl
def back_spread.T8 : Bool × List (List Nat × List Nat) := (true, [([], []), ([0], [0]), ([], []), ([], []), ([3], [3]), ([], []), ([4, 5], [4, 5]), ([6], [6]), ([1, 2, 0, 1, 2, 3, 4, 5, 6, 7], [1, 2]), ([8, 7, 0, 1, 2, 3, 4, 5, 6, 7], [7, 8])])
def back_spread.B8 : List Nat := [0, 1, 0, 0, 8, 0, 56, 120, 255, 511]
theorem back_spread.tab8 : rtab .any (opsOf Tryz.f346 8) = back_spread.T8 := by kernel_rfl
theorem back_spread.bits8 : waitsOk back_spread.T8.2 back_spread.B8 = true := by kernel_rfl
theorem back_spread.calls (k : Nat) (A0_0 : Option Addr) (c0_0 : Nat) (l0_0 : List Int) (A0_1 : Option Addr) (c0_1 : Nat) (l0_1 : List Int) (A1 : Option Addr) (c1 : Nat) (l1 : List Int) (a2 : Int) (r1 : List Int) (r2 : List Int) (w : World) (hr0_0 : Kd.C (Kd.int .i64) w A0_0 l0_0.length l0_0) (hc0_0 : l0_0.length ≤ c0_0) (hr0_1 : Kd.C (Kd.int .i64) w A0_1 l0_1.length l0_1) (hc0_1 : l0_1.length ≤ c0_1) (hr1 : Kd.C (Kd.int .i64) w A1 l1.length l1) (hc1 : l1.length ≤ c1) (h : back_spread.f k l0_0 l0_1 l1 a2 = some (r1, r2)) :
  Calls Tryz.prog 346 #[.agg #[.slice A0_0 l0_0.length c0_0, .slice A0_1 l0_1.length c0_1], .slice A1 l1.length c1, .int .i64 a2] w fun e w' => ∃ v0_ v1_ : Value, e = .returned (.agg #[v0_, v1_]) ∧ Kd.R (Kd.int .i64) 3 w' w.heap.size (fun _ => True) v0_ r1 ∧ Kd.R (Kd.int .i64) 36 w' w.heap.size (fun _ => True) v1_ r2 ∧ Below w.heap.size w w' := by
 have hu273 := Tryz.underlying273
 have HR0_0 := zA_ hr0_0
 have HC0_0 := zA_ hc0_0
 clear hr0_0 hc0_0
 have HR0_1 := zA_ hr0_1
 have HC0_1 := zA_ hc0_1
 clear hr0_1 hc0_1
 have HR1 := zA_ hr1
 have HC1 := zA_ hc1
 clear hr1 hc1
 have HB := zA_ (Below.refl w.heap.size w)
 have H : ((tens_New.f k l1 0).bind fun bt1090 => (back_spread.l0 k l1 a2 (bt1090.2.1.length : Int) 0 l0_0 l0_1 bt1090.1 bt1090.2.1)) = some (r1, r2) := h
 clear h
 replace H := zO_ H
 obtain ⟨⟨t1090, t1093, t1096⟩, A40, H⟩ := H
 replace H : (back_spread.l0 k l1 a2 (t1093.length : Int) 0 l0_0 l0_1 t1090 t1093) = some (r1, r2) := H
 have A4 := zA_ A40
 clear A40
 have H' := zA_ H
 clear H
 go_enter Tryz.func346, Tryz.ntmps346
 go_wp2_with (first | ((with_reducible refine gate_dst (N := 3) rfl ?_); refine zB_ (#[.slice A0_0 l0_0.length c0_0, .slice A0_1 l0_1.length c0_1]) 273 ?_; intro gb1088 hg w5 hbox hb; have BK1088 := zA_ (hbox); have GW1088 := zA_ (zs_ hg (zw0_ HB)); have GE1088 := zA_ (zs_ hg (zw0_ HB)); replace HB := zA_ (below_step (zw0_ HB) hb); clear hb hbox hg) | ((with_reducible refine gate_dst (N := 6) rfl ?_); refine zB_ (#[.slice none 0 0, .slice none 0 0]) 273 ?_; intro gb1089 hg w6 hbox hb; have BK1089 := zA_ (hbox); have GW1089 := zA_ (zs_ hg (zw1_ HB GE1088)); have GE1089 := zA_ (zs_ hg (zw1_ HB GE1088)); replace HB := zA_ (below_step (zw1_ HB GE1088) hb); have NB1088_1089 := zA_ (zn_ hg BK1088); have NB1089_1088 := zA_ (zm_ hg BK1088); replace BK1088 := za_ BK1088 hb; clear hb hbox hg) | ((with_reducible refine gate_callee (f := 250) rfl ?_); refine zg_ (some 17) Tryz.func250 #[.slice A1 l1.length c1, .int .i64 0] (h := ?_); (with_reducible refine (tens_New.calls k _ _ l1 0 t1090 t1093 t1096 _ ?side1 ?side2 A4.out).mono ?_); (case side1 => exact zk_ (Kd.C_below HR1.out HB.out)); (case side2 => exact HC1.out); rintro e w7 ⟨v1091, v1094, rfl, ho0, ho1, hb⟩; refine ⟨_, rfl, ?_⟩; have HO1092 := zA_ (Kd.R_lower ho0 (below_size (zw2_ HB GE1088 GE1089))); have HO1095 := zA_ (Kd.R_lower ho1 (below_size (zw2_ HB GE1088 GE1089))); replace BK1088 := za_ BK1088 hb; replace BK1089 := za_ BK1089 hb; replace HB := zA_ (below_step (zw2_ HB GE1088 GE1089) hb); (try clear hb); (try clear ho0); (try clear ho1)) | ((with_reducible refine gate_dst (N := 7) rfl ?_); refine zB_ (#[.slice none 0 0, .slice none 0 0]) 273 ?_; intro gb1097 hg w8 hbox hb; replace HO1092 := zy_ HO1092 hb; replace HO1095 := zy_ HO1095 hb; have BK1097 := zA_ (hbox); have GW1097 := zA_ (zs_ hg (zw2_ HB GE1088 GE1089)); have GE1097 := zA_ (zs_ hg (zw2_ HB GE1088 GE1089)); replace HB := zA_ (below_step (zw2_ HB GE1088 GE1089) hb); have NB1088_1097 := zA_ (zn_ hg BK1088); have NB1097_1088 := zA_ (zm_ hg BK1088); replace BK1088 := za_ BK1088 hb; have NB1089_1097 := zA_ (zn_ hg BK1089); have NB1097_1089 := zA_ (zm_ hg BK1089); replace BK1089 := za_ BK1089 hb; clear hb hbox hg; obtain ⟨Ao9, co9, eo9⟩ := Kd.R_slice HO1092.out; subst eo9; have hnb10 := NB1097_1088.out; have hnc10 := NB1088_1097.out; have hnb11 := NB1097_1089.out; have hnc11 := NB1089_1097.out; have hcz12_0 := zx_ (v := .slice none 0 0) BK1097 0; have hcz12_1 := zx_ (v := .slice none 0 0) BK1097 1; have hfz12_0 := blk_frozen BK1097.out 0; have hfz12_1 := blk_frozen BK1097.out 1; obtain ⟨Ao13, co13, eo13⟩ := Kd.R_slice HO1095.out; subst eo13))
 go_loopg [23] k (fun kq v23 w' => ∃ (x23_1 : Int) (x1098001_1 : List Int) (u1098001 : Value), v23 = .int .i64 x23_1 ∧ Aside0 (back_spread.l0 kq l1 a2 (t1093.length : Int) x23_1 l0_0 l0_1 t1090 x1098001_1 = some (r1, r2)) ∧ Aside0 (kq ≤ k) ∧ Aside0 (Kd.R (Kd.int .i64) 3 w' w.heap.size (fun _ => True) (.slice Ao9 t1090.length co9) t1090) ∧ Aside0 (Kd.R (Kd.int .i64) 36 w' w.heap.size (fun _ => True) u1098001 x1098001_1) ∧ Aside0 (w'.heap[gb1088]? = some (.cells #[(.slice A0_0 l0_0.length c0_0), (.slice A0_1 l0_1.length c0_1)] 273 (0, 0))) ∧ Aside0 (w'.heap[gb1089]? = some (.cells #[(.slice none 0 0), (.slice none 0 0)] 273 (0, 0))) ∧ Aside0 (w'.heap[gb1097]? = some (.cells #[(.slice Ao9 t1090.length co9), u1098001] 273 (0, 0))) ∧ Aside0 (Below w.heap.size w w'))
 case atStart => exact ⟨(0), (t1093), (.slice Ao13 t1093.length co13), z1_, H', ⟨Nat.le_refl _⟩, ⟨zr_ (Kd.R_mono (Kd.R_far (p := ⟨gb1097, 1, none⟩) (Kd.R_far (p := ⟨gb1097, 0, none⟩) (Kd.R_types HO1092.out BK1097.out (by decide)) (fun _ hk => hk.2) (.slice Ao9 t1090.length co9)) (fun _ hk => hk.2) (.slice Ao13 t1093.length co13)) (fun _ hk => trivial))⟩, ⟨zr_ (Kd.R_mono (Kd.R_far (p := ⟨gb1097, 1, none⟩) (Kd.R_far (p := ⟨gb1097, 0, none⟩) (Kd.R_types HO1095.out BK1097.out (by decide)) (fun _ hk => hk.2) (.slice Ao9 t1090.length co9)) (fun _ hk => hk.2) (.slice Ao13 t1093.length co13)) (fun _ hk => trivial))⟩, ⟨zv1_ BK1088 NB1088_1097⟩, ⟨zv1_ BK1089 NB1089_1097⟩, ⟨zo2_ BK1097⟩, ⟨zw3_ HB GE1088 GE1089 GE1097⟩⟩
 case round =>
  clear H'
  try clear p2
  try clear hcz12_0
  try clear hcz12_1
  try clear hfz12_0
  try clear hfz12_1
  obtain ⟨x23_1, x1098001_1, u1098001, rfl, HA, HK1, HO_1098000, HO_1098001, BK1088, BK1089, BK1097, HB⟩ := hrel
  cases gk with
  | zero => exact absurd HA.out (by simp [back_spread.l0])
  | succ k1 =>
   have H := HA.out
   clear HA
   simp only [back_spread.l0] at H
   by_cases c14 : x23_1 < (t1093.length : Int)
   rotate_left
   ·rw [if_neg c14] at H
    have c14b0 : decide (x23_1 < (t1093.length : Int)) = false := decide_eq_false c14
    clear c14
    simp only [Option.some.injEq, Prod.mk.injEq] at H
    obtain ⟨rfl, rfl⟩ := H
    have hnb44 := NB1097_1088.out
    have hnc44 := NB1088_1097.out
    have hnb45 := NB1097_1089.out
    have hnc45 := NB1089_1097.out
    have hcz46_0 := zx_ (v := .slice Ao9 t1090.length co9) BK1097 0
    have hcz46_1 := zx_ (v := u1098001) BK1097 1
    have hfz46_0 := blk_frozen BK1097.out 0
    have hfz46_1 := blk_frozen BK1097.out 1
    have hnb47 := NB1089_1088.out
    have hnc47 := NB1088_1089.out
    have hcz48_0 := zx_ (v := .slice none 0 0) BK1089 0
    have hcz48_1 := zx_ (v := .slice none 0 0) BK1089 1
    have hfz48_0 := blk_frozen BK1089.out 0
    have hfz48_1 := blk_frozen BK1089.out 1
    obtain ⟨Ao49, co49, eo49⟩ := Kd.R_slice HO_1098001.out
    subst eo49
    go_wp2
    refine bodyPost_ret (results_cell_row rfl _ _ gb1089 273 #[.slice Ao9 t1090.length co9, .slice Ao49 x1098001_1.length co49] (0, 0) _ rfl (zo2_ BK1089) Tryz.underlying273 rfl (by kernel_rfl)) rfl ?_
    exact ⟨_, _, z0_, zr_ (Kd.R_mono (Kd.R_far (p := ⟨gb1089, 1, none⟩) (Kd.R_far (p := ⟨gb1089, 0, none⟩) (Kd.R_types HO_1098000.out BK1089.out (by decide)) (fun _ hk => hk.2) (.slice Ao9 t1090.length co9)) (fun _ hk => hk.2) (.slice Ao49 x1098001_1.length co49)) (fun _ hk => trivial)), zr_ (Kd.R_mono (Kd.R_far (p := ⟨gb1089, 1, none⟩) (Kd.R_far (p := ⟨gb1089, 0, none⟩) (Kd.R_types HO_1098001.out BK1089.out (by decide)) (fun _ hk => hk.2) (.slice Ao9 t1090.length co9)) (fun _ hk => hk.2) (.slice Ao49 x1098001_1.length co49)) (fun _ hk => trivial)), zw3_ HB GE1088 GE1089 GE1097⟩
   rw [if_pos c14] at H
   have c14b0 : decide (x23_1 < (t1093.length : Int)) = true := decide_eq_true c14
   clear c14
   replace H := zO_ H
   obtain ⟨⟨t1098, t1099⟩, A150, H⟩ := H
   (try dsimp only at H)
   have A15 := zA_ A150
   clear A150
   obtain ⟨y1102, hy1102⟩ : ∃ y_ : List Int, y_ = (([] : List Int)) := ⟨_, rfl⟩
   replace H : (if 0 ≤ a2 then (if a2 ≤ (t1098.length : Int) then ((some (t1098.take (a2 : Int).toNat : List Int)).bind fun y1105 => (if y1102.length + y1105.length < 17592186044416 then ((some (y1102 ++ y1105 : List Int)).bind fun y1109 => (if 0 ≤ (wrap64 (a2 + 1)) then (if (wrap64 (a2 + 1)) ≤ (t1098.length : Int) then ((some (t1098.drop ((wrap64 (a2 + 1)) : Int).toNat : List Int)).bind fun y1112 => (if y1109.length + y1112.length < 17592186044416 then ((shape_At.f k1 l0_0 (y1109 ++ y1112)).bind fun bt1119 => (if 0 ≤ bt1119.1 then (if bt1119.1 < (l0_1.length : Int) then (if 0 ≤ x23_1 then (if x23_1 < (x1098001_1.length : Int) then (back_spread.l0 k1 l1 a2 (t1093.length : Int) (wrap64 (x23_1 + 1)) l0_0 l0_1 t1090 (x1098001_1.set (x23_1 : Int).toNat (rd l0_1 bt1119.1))) else (none)) else (none)) else (none)) else (none))) else (none))) else (none)) else (none))) else (none))) else (none)) else (none)) = some (r1, r2) := by first | (rw [hy1102]; with_reducible exact H) | (have H2_ := (Option.bind_some _ _).symm.trans H; rw [hy1102]; with_reducible exact H2_) | (have H2_ := (Option.bind_some _ _).symm.trans H; with_reducible exact H2_) | with_reducible exact H | (rw [hy1102]; exact H) | exact H
   have Ny1102 := zA_ hy1102
   clear hy1102
   by_cases c16 : 0 ≤ a2
   rotate_left
   ·rw [if_neg c16] at H
    exact zN_ H
   rw [if_pos c16] at H
   have c16b0 := eq_true c16
   have c16b1 : decide (0 ≤ a2) = true := decide_eq_true c16
   clear c16
   by_cases c17 : a2 ≤ (t1098.length : Int)
   rotate_left
   ·rw [if_neg c17] at H
    exact zN_ H
   rw [if_pos c17] at H
   have c17b0 := eq_true c17
   have c17b1 : decide (a2 ≤ (t1098.length : Int)) = true := decide_eq_true c17
   clear c17
   obtain ⟨y1105, hy1105⟩ : ∃ y_ : List Int, y_ = (t1098.take (a2 : Int).toNat) := ⟨_, rfl⟩
   replace H : (if y1102.length + y1105.length < 17592186044416 then ((some (y1102 ++ y1105 : List Int)).bind fun y1109 => (if 0 ≤ (wrap64 (a2 + 1)) then (if (wrap64 (a2 + 1)) ≤ (t1098.length : Int) then ((some (t1098.drop ((wrap64 (a2 + 1)) : Int).toNat : List Int)).bind fun y1112 => (if y1109.length + y1112.length < 17592186044416 then ((shape_At.f k1 l0_0 (y1109 ++ y1112)).bind fun bt1119 => (if 0 ≤ bt1119.1 then (if bt1119.1 < (l0_1.length : Int) then (if 0 ≤ x23_1 then (if x23_1 < (x1098001_1.length : Int) then (back_spread.l0 k1 l1 a2 (t1093.length : Int) (wrap64 (x23_1 + 1)) l0_0 l0_1 t1090 (x1098001_1.set (x23_1 : Int).toNat (rd l0_1 bt1119.1))) else (none)) else (none)) else (none)) else (none))) else (none))) else (none)) else (none))) else (none)) = some (r1, r2) := by first | (rw [hy1105]; with_reducible exact H) | (have H2_ := (Option.bind_some _ _).symm.trans H; rw [hy1105]; with_reducible exact H2_) | (have H2_ := (Option.bind_some _ _).symm.trans H; with_reducible exact H2_) | with_reducible exact H | (rw [hy1105]; exact H) | exact H
   have Ny1105 := zA_ hy1105
   clear hy1105
   by_cases c18 : y1102.length + y1105.length < 17592186044416
   rotate_left
   ·rw [if_neg c18] at H
    exact zN_ H
   rw [if_pos c18] at H
   have LMc18 := zA_ c18
   clear c18
   obtain ⟨y1109, hy1109⟩ : ∃ y_ : List Int, y_ = (y1102 ++ y1105) := ⟨_, rfl⟩
   replace H : (if 0 ≤ (wrap64 (a2 + 1)) then (if (wrap64 (a2 + 1)) ≤ (t1098.length : Int) then ((some (t1098.drop ((wrap64 (a2 + 1)) : Int).toNat : List Int)).bind fun y1112 => (if y1109.length + y1112.length < 17592186044416 then ((shape_At.f k1 l0_0 (y1109 ++ y1112)).bind fun bt1119 => (if 0 ≤ bt1119.1 then (if bt1119.1 < (l0_1.length : Int) then (if 0 ≤ x23_1 then (if x23_1 < (x1098001_1.length : Int) then (back_spread.l0 k1 l1 a2 (t1093.length : Int) (wrap64 (x23_1 + 1)) l0_0 l0_1 t1090 (x1098001_1.set (x23_1 : Int).toNat (rd l0_1 bt1119.1))) else (none)) else (none)) else (none)) else (none))) else (none))) else (none)) else (none)) = some (r1, r2) := by first | (rw [hy1109]; with_reducible exact H) | (have H2_ := (Option.bind_some _ _).symm.trans H; rw [hy1109]; with_reducible exact H2_) | (have H2_ := (Option.bind_some _ _).symm.trans H; with_reducible exact H2_) | with_reducible exact H | (rw [hy1109]; exact H) | exact H
   have Ny1109 := zA_ hy1109
   clear hy1109
   obtain ⟨ji19, hji19⟩ : ∃ j_ : Int, (wrap64 (a2 + 1)) = j_ := ⟨_, rfl⟩
   replace H : (if 0 ≤ (ji19) then (if (ji19) ≤ (t1098.length : Int) then ((some (t1098.drop ((ji19) : Int).toNat : List Int)).bind fun y1112 => (if y1109.length + y1112.length < 17592186044416 then ((shape_At.f k1 l0_0 (y1109 ++ y1112)).bind fun bt1119 => (if 0 ≤ bt1119.1 then (if bt1119.1 < (l0_1.length : Int) then (if 0 ≤ x23_1 then (if x23_1 < (x1098001_1.length : Int) then (back_spread.l0 k1 l1 a2 (t1093.length : Int) (wrap64 (x23_1 + 1)) l0_0 l0_1 t1090 (x1098001_1.set (x23_1 : Int).toNat (rd l0_1 bt1119.1))) else (none)) else (none)) else (none)) else (none))) else (none))) else (none)) else (none)) = some (r1, r2) := by first | (rw [hji19] at H; exact H) | (simp only [hji19] at H ⊢; exact H)
   (try rw [hji19] at A15)
   have hji19w : (IntKind.i64.wrap (a2 + 1)) = ji19 := (i64_w _).trans hji19
   by_cases c20 : 0 ≤ (ji19)
   rotate_left
   ·rw [if_neg c20] at H
    exact zN_ H
   rw [if_pos c20] at H
   have c20b0 := eq_true c20
   have c20b1 : decide (0 ≤ (ji19)) = true := decide_eq_true c20
   clear c20
   by_cases c21 : (ji19) ≤ (t1098.length : Int)
   rotate_left
   ·rw [if_neg c21] at H
    exact zN_ H
   rw [if_pos c21] at H
   have c21b0 := eq_true c21
   have c21b1 : decide ((ji19) ≤ (t1098.length : Int)) = true := decide_eq_true c21
   clear c21
   obtain ⟨y1112, hy1112⟩ : ∃ y_ : List Int, y_ = (t1098.drop ((ji19) : Int).toNat) := ⟨_, rfl⟩
   replace H : (if y1109.length + y1112.length < 17592186044416 then ((shape_At.f k1 l0_0 (y1109 ++ y1112)).bind fun bt1119 => (if 0 ≤ bt1119.1 then (if bt1119.1 < (l0_1.length : Int) then (if 0 ≤ x23_1 then (if x23_1 < (x1098001_1.length : Int) then (back_spread.l0 k1 l1 a2 (t1093.length : Int) (wrap64 (x23_1 + 1)) l0_0 l0_1 t1090 (x1098001_1.set (x23_1 : Int).toNat (rd l0_1 bt1119.1))) else (none)) else (none)) else (none)) else (none))) else (none)) = some (r1, r2) := by first | (rw [hy1112]; with_reducible exact H) | (have H2_ := (Option.bind_some _ _).symm.trans H; rw [hy1112]; with_reducible exact H2_) | (have H2_ := (Option.bind_some _ _).symm.trans H; with_reducible exact H2_) | with_reducible exact H | (rw [hy1112]; exact H) | exact H
   have Ny1112 := zA_ hy1112
   clear hy1112
   by_cases c22 : y1109.length + y1112.length < 17592186044416
   rotate_left
   ·rw [if_neg c22] at H
    exact zN_ H
   rw [if_pos c22] at H
   have LMc22 := zA_ c22
   clear c22
   obtain ⟨y1116, hy1116⟩ : ∃ y_ : List Int, y_ = (y1109 ++ y1112) := ⟨_, rfl⟩
   replace H : ((shape_At.f k1 l0_0 y1116).bind fun bt1119 => (if 0 ≤ bt1119.1 then (if bt1119.1 < (l0_1.length : Int) then (if 0 ≤ x23_1 then (if x23_1 < (x1098001_1.length : Int) then (back_spread.l0 k1 l1 a2 (t1093.length : Int) (wrap64 (x23_1 + 1)) l0_0 l0_1 t1090 (x1098001_1.set (x23_1 : Int).toNat (rd l0_1 bt1119.1))) else (none)) else (none)) else (none)) else (none))) = some (r1, r2) := by first | (rw [hy1116]; with_reducible exact H) | (have H2_ := (Option.bind_some _ _).symm.trans H; rw [hy1116]; with_reducible exact H2_) | (have H2_ := (Option.bind_some _ _).symm.trans H; with_reducible exact H2_) | with_reducible exact H | (rw [hy1116]; exact H) | exact H
   have Ny1116 := zA_ hy1116
   clear hy1116
   replace H := zO_ H
   obtain ⟨⟨t1119, t1120⟩, A230, H⟩ := H
   (try dsimp only at H)
   have A23 := zA_ A230
   clear A230
   by_cases c24 : 0 ≤ t1119
   rotate_left
   ·rw [if_neg c24] at H
    exact zN_ H
   rw [if_pos c24] at H
   have c24b0 : decide (0 ≤ t1119) = true := decide_eq_true c24
   clear c24
   by_cases c25 : t1119 < (l0_1.length : Int)
   rotate_left
   ·rw [if_neg c25] at H
    exact zN_ H
   rw [if_pos c25] at H
   have c25b0 : decide (t1119 < (l0_1.length : Int)) = true := decide_eq_true c25
   clear c25
   by_cases c26 : 0 ≤ x23_1
   rotate_left
   ·rw [if_neg c26] at H
    exact zN_ H
   rw [if_pos c26] at H
   have c26b0 : decide (0 ≤ x23_1) = true := decide_eq_true c26
   clear c26
   by_cases c27 : x23_1 < (x1098001_1.length : Int)
   rotate_left
   ·rw [if_neg c27] at H
    exact zN_ H
   rw [if_pos c27] at H
   have c27b0 : decide (x23_1 < (x1098001_1.length : Int)) = true := decide_eq_true c27
   clear c27
   obtain ⟨y1122, hy1122⟩ : ∃ y_ : List Int, y_ = (x1098001_1.set (x23_1 : Int).toNat (rd l0_1 t1119)) := ⟨_, rfl⟩
   replace H : (back_spread.l0 k1 l1 a2 (t1093.length : Int) (wrap64 (x23_1 + 1)) l0_0 l0_1 t1090 y1122) = some (r1, r2) := by first | (rw [hy1122]; with_reducible exact H) | (have H2_ := (Option.bind_some _ _).symm.trans H; rw [hy1122]; with_reducible exact H2_) | (have H2_ := (Option.bind_some _ _).symm.trans H; with_reducible exact H2_) | with_reducible exact H | (rw [hy1122]; exact H) | exact H
   have Ny1122 := zA_ hy1122
   clear hy1122
   have H' := zA_ H
   clear H
   try go_wp2_with (first | ((with_reducible refine gate_callee (f := 367) rfl ?_); refine zg_ (some 29) Tryz.func367 #[.slice A1 l1.length c1, .int .i64 x23_1] (h := ?_); (with_reducible refine (shape_Place.calls k1 _ _ l1 x23_1 t1098 t1099 _ ?side1 ?side2 A15.out).mono ?_); (case side1 => exact zk_ (Kd.C_below HR1.out HB.out)); (case side2 => exact HC1.out); rintro e w29 ⟨v1100, rfl, ho0, hb⟩; refine ⟨_, rfl, ?_⟩; replace HO_1098001 := zy_ HO_1098001 hb; have HO1101 := zA_ (Kd.R_lower (Kd.R_new' ho0 (Kd.R_lt (zr_ HO_1098000.out))) (below_size (zw3_ HB GE1088 GE1089 GE1097))); replace HO_1098000 := ze_ HO_1098000 ho0 hb; replace BK1088 := za_ BK1088 hb; replace BK1089 := za_ BK1089 hb; replace BK1097 := za_ BK1097 hb; replace HB := zA_ (below_step (zw3_ HB GE1088 GE1089 GE1097) hb); (try clear hb); (try clear ho0)))
   replace HO_1098000 := zA_ (Kd.R_drew HO_1098000.out)
   replace HO_1098001 := zA_ (Kd.R_drew HO_1098001.out)
   replace HO1101 := zA_ (Kd.R_drew HO1101.out)
   replace BK1088 := zA_ (blk_drew BK1088.out)
   replace BK1089 := zA_ (blk_drew BK1089.out)
   replace BK1097 := zA_ (blk_drew BK1097.out)
   replace HB := zA_ (below_drew1 HB.out)
   obtain ⟨Ao32, co32, eo32⟩ := Kd.R_slice HO1101.out
   (first | subst eo32 | (injection eo32 with f1_ f2_ f3_; have f4_ := f1_.symm; have f5_ := f3_.symm; clear f1_ f2_ f3_; subst f4_; subst f5_))
   have q31 : (a2 : Int) ≤ ((t1098.length : Int) : Int) := zD_
   obtain ⟨i031, hi031, _, hsz31, _⟩ := info_parts info3
   have hroom31 : t1098.length ≤ co32 := (Kd.R_reads' HO1101.out).2.1
   have hC31 : Kd.C (Kd.int .i64) _ Ao32 t1098.length t1098 := (Kd.R_reads' HO1101.out).2.2
   have hcut31 := cut_to (P := Tryz.prog) 32 3 .i64 Tryz.underlying32 hi031 Ao32 t1098.length co32 a2 (zD_) q31 hroom31
   have hr31 := Kd.C_take (m := (a2 : Int).toNat) hC31 (by omega)
   have hy31 : y1105.length = (a2 : Int).toNat := (by rw [Ny1105.out, List.length_take]; omega)
   rw [← Ny1105.out] at hr31
   rw [← hy31] at hcut31
   have HR1108 := zA_ hr31
   have HC1108 := zA_ (show y1105.length ≤ co32 from by omega)
   clear hr31 hC31 hroom31 hi031 hsz31
   have KY31 := zA_ hy31
   clear hy31
   have KL31 := zA_ (show (a2 : Int).toNat ≤ t1098.length from by omega)
   replace q31 := eq_true q31
   have q33 : ((ji19) : Int) ≤ ((t1098.length : Int) : Int) := zD_
   obtain ⟨i033, hi033, _, hsz33, _⟩ := info_parts info3
   have hroom33 : t1098.length ≤ co32 := (Kd.R_reads' HO1101.out).2.1
   have hC33 : Kd.C (Kd.int .i64) _ Ao32 t1098.length t1098 := (Kd.R_reads' HO1101.out).2.2
   have q033 : (0 : Int) ≤ ((ji19) : Int) := zD_
   have hcut33 := cut_from (P := Tryz.prog) 32 3 .i64 Tryz.underlying32 hi033 1 hsz33 Ao32 t1098.length co32 (ji19) q033 q33
   have hr33 := Kd.C_drop (m := ((ji19) : Int).toNat) (c := co32) hC33 (by omega) hroom33
   obtain ⟨A33, hA33⟩ : ∃ A1, A1 = (if co32 = ((ji19) : Int).toNat then Ao32 else (Ao32 : Option Addr).map (·.add (((ji19) : Int).toNat * 1))) := ⟨_, rfl⟩
   obtain ⟨c33, hc33⟩ : ∃ c1, c1 = co32 - ((ji19) : Int).toNat := ⟨_, rfl⟩
   have hy33 : y1112.length = t1098.length - ((ji19) : Int).toNat := (by rw [Ny1112.out, List.length_drop] <;> omega)
   rw [show (t1098).drop ((ji19) : Int).toNat = y1112 from Ny1112.out.symm] at hr33
   replace hr33 : Kd.C (Kd.int .i64) _ A33 y1112.length y1112 := (by rw [hA33]; exact hr33)
   rw [← hy33, ← hA33, ← hc33] at hcut33
   have HR1115 := zA_ hr33
   have HC1115 := zA_ (show y1112.length ≤ c33 from by rw [hy33, hc33]; exact Nat.sub_le_sub_right hroom33 _)
   clear hr33 hC33 hroom33 hi033 hsz33 hc33
   have KY33 := zA_ hy33
   have KA33 := zA_ hA33
   clear hy33 hA33
   have KL33 := zA_ (show ((ji19) : Int).toNat ≤ t1098.length from by omega)
   replace q33 := eq_true q33
   refine start_ (n := 11) (S := fun w' => True) (ds := []) #[false, false, false, false, false, false, false, false, false, false, false] (by kernel_rfl) rfl rfl trivial (fun hHeld => ?_); refine with_tabW back_spread.tab6 back_spread.bits6 (fun HT_ HW_ => ?_)
   generalize w29.drew = w30 at HO_1098000 HO_1098001 HO1101 BK1088 BK1089 BK1097 HB HR1108 HR1115 hHeld ⊢
   refine yp_ ?_ 1 33
   refine yp_ ?_ 2 34
   refine yp_ ?_ 3 35
   refine yp_ ?_ 5 37
   refine yp_ ?_ 6 38
   refine yp_ ?_ 7 39
   refine yp_ ?_ 8 40
   refine yo_ 0 (some 32) (fun K hK => ?_)
   refine Kd.R_lit_step (Kd.int .i64) _ 3 ?hg (N := 32) ?hd (xs := ([] : List Int)) (inner := []) (ok := fun _ => True) (okp := fun _ => True) ?hr ?hp (fun _ hk => hk) trivial (Below.refl _ _) (Nat.le_refl _) (by simp) ?_; (case hd => rfl); (case hg => rfl); (case hr => first | (go_simp; done) | (go_simp; rfl)); (case hp => exact (Reps.none _ _))
   intro v1103 w34 ho35 hb hg_ hnew_
   clear hg_ hnew_
   (first | rw [← Ny1102.out] at ho35 | (simp only [Int.reduceToNat] at ho35; rw [← Ny1102.out] at ho35))
   replace HO_1098001 := zy_ HO_1098001 hb
   have HO1104 := zA_ (Kd.R_lower (Kd.R_new' (Kd.R_new' ho35 (Kd.R_lt (zr_ HO_1098000.out))) (Kd.R_lt (zr_ HO1101.out))) (below_size (zw3_ HB GE1088 GE1089 GE1097)))
   replace HO_1098000 := ze_ HO_1098000 ho35 hb
   replace HO1101 := ze_ HO1101 ho35 hb
   replace BK1088 := za_ BK1088 hb
   replace BK1089 := za_ BK1089 hb
   replace BK1097 := za_ BK1097 hb
   replace HR1108 := zA_ (Kd.C_below (by repeat (first | (with_reducible exact HR1108.out) | (with_reducible refine Kd.C_alloc ?_ _) | (with_reducible refine Kd.C_drewN ?_ _) | (with_reducible refine Kd.C_drew ?_) | exact HR1108.out)) hb)
   replace HR1115 := zA_ (Kd.C_below (by repeat (first | (with_reducible exact HR1115.out) | (with_reducible refine Kd.C_alloc ?_ _) | (with_reducible refine Kd.C_drewN ?_ _) | (with_reducible refine Kd.C_drew ?_) | exact HR1115.out)) hb)
   replace HB := zA_ (below_step (zw3_ HB GE1088 GE1089 GE1097) hb)
   clear hb ho35
   refine hK.out _ _ trivial (fun hHeld => ?_)
   clear hK K
   refine zq_ (some 32) (h := ?_)
   refine yo_ 4 (some 36) (fun K hK => ?_)
   refine Kd.R_append_rows_step (Kd.int .i64) (w0 := w) w.heap.size (by rfl) (.tmp 32) (.tmp 35) 32 3 (.int .i64 0) 8 rfl Tryz.underlying32 info3 rfl (by decide) (by omega) v1103 y1102 y1105 _ _ _ (fun k_ => some k_ ≠ (.slice Ao9 t1090.length co9 : Value).ownBlock ∧ some k_ ≠ (.slice Ao32 t1098.length co32 : Value).ownBlock) (fun _ => False) rfl rfl ?aO ?aR (fun _ _ h => h) (fun _ h => h.elim) ?aF ?aB ?aS ?aL ?_
   (case aR => repeat (first | exact (by repeat (first | (with_reducible exact HR1108.out) | (with_reducible refine Kd.C_alloc ?_ _) | (with_reducible refine Kd.C_drewN ?_ _) | (with_reducible refine Kd.C_drew ?_) | exact HR1108.out)) | (with_reducible refine Kd.C_alloc ?_ _) | (with_reducible refine Kd.C_drewN ?_ _) | (with_reducible refine Kd.C_drew ?_)))
   (case aB => exact (zw3_ HB GE1088 GE1089 GE1097))
   (case aF => exact (fun k_ hk => ⟨Kd.fresh' (Kd.R_lt (zr_ HO_1098000.out)) k_ hk, Kd.fresh' (Kd.R_lt (zr_ HO1101.out)) k_ hk⟩))
   (case aO => exact (zr_ (Kd.R_mono HO1104.out (fun _ hk => ⟨hk.1.2, hk.2⟩))))
   (case aS => exact (below_size (zw3_ HB GE1088 GE1089 GE1097)))
   (case aL => have := LMc18.out; omega)
   intro v1110 w36 ho hb hg hat
   rw [← Ny1109.out] at ho
   replace HO_1098000 := zA_ (Kd.R_after (ok := (fun k_ => some k_ ≠ (.slice Ao32 t1098.length co32 : Value).ownBlock)) (zr_ (Kd.R_mono HO_1098000.out (fun _ hk => ⟨hk.1.2, hk.2⟩))) hg hat)
   replace HO_1098001 := zA_ (Kd.R_over' (zr_ HO_1098001.out) (Kd.R_typed (zr_ HO1104.out)) (by decide) hg)
   replace BK1088 := zA_ (zh_ BK1088 hg (Kd.R_ne HO1104.out BK1088.out (by decide)))
   replace BK1089 := zA_ (zh_ BK1089 hg (Kd.R_ne HO1104.out BK1089.out (by decide)))
   replace BK1097 := zA_ (zh_ BK1097 hg (Kd.R_ne HO1104.out BK1097.out (by decide)))
   replace HB := zA_ (hb)
   replace HR1108 := zA_ ((show Kd.C (Kd.int .i64) w36 Ao32 y1105.length y1105 from by rw [Ny1105.out]; exact Kd.C_take (m := (a2 : Int).toNat) ((Kd.R_reads' (Kd.R_after (ok := (fun k_ => some k_ ≠ (.slice Ao9 t1090.length co9 : Value).ownBlock)) (zr_ (Kd.R_mono HO1101.out (fun _ hk => ⟨hk.1.2, hk.2⟩))) hg hat)).2.2) KL31.out))
   replace HR1115 := zA_ ((show Kd.C (Kd.int .i64) w36 A33 y1112.length y1112 from by rw [Ny1112.out, KA33.out]; exact Kd.C_drop (m := ((ji19) : Int).toNat) (c := co32) ((Kd.R_reads' (Kd.R_after (ok := (fun k_ => some k_ ≠ (.slice Ao9 t1090.length co9 : Value).ownBlock)) (zr_ (Kd.R_mono HO1101.out (fun _ hk => ⟨hk.1.2, hk.2⟩))) hg hat)).2.2) KL33.out ((Kd.R_reads' (Kd.R_after (ok := (fun k_ => some k_ ≠ (.slice Ao9 t1090.length co9 : Value).ownBlock)) (zr_ (Kd.R_mono HO1101.out (fun _ hk => ⟨hk.1.2, hk.2⟩))) hg hat)).2.1)))
   replace HO1101 := zA_ (Kd.R_after (ok := (fun k_ => some k_ ≠ (.slice Ao9 t1090.length co9 : Value).ownBlock)) (zr_ (Kd.R_mono HO1101.out (fun _ hk => ⟨hk.1.2, hk.2⟩))) hg hat)
   have HO1111 := zA_ (ho)
   clear HO1104
   clear ho hb hg hat
   refine hK.out _ _ trivial (fun hHeld => ?_)
   clear hK K
   refine zq_ (some 36) (h := ?_)
   refine yo_ 9 (some 41) (fun K hK => ?_)
   refine Kd.R_append_rows_step (Kd.int .i64) (w0 := w) w.heap.size (by rfl) (.tmp 36) (.tmp 40) 32 3 (.int .i64 0) 8 rfl Tryz.underlying32 info3 rfl (by decide) (by omega) v1110 y1109 y1112 _ _ _ (fun k_ => some k_ ≠ (.slice Ao9 t1090.length co9 : Value).ownBlock ∧ some k_ ≠ (.slice Ao32 t1098.length co32 : Value).ownBlock) (fun _ => False) rfl rfl ?aO ?aR (fun _ _ h => h) (fun _ h => h.elim) ?aF ?aB ?aS ?aL ?_
   (case aR => repeat (first | exact (by repeat (first | (with_reducible exact HR1115.out) | (with_reducible refine Kd.C_alloc ?_ _) | (with_reducible refine Kd.C_drewN ?_ _) | (with_reducible refine Kd.C_drew ?_) | exact HR1115.out)) | (with_reducible refine Kd.C_alloc ?_ _) | (with_reducible refine Kd.C_drewN ?_ _) | (with_reducible refine Kd.C_drew ?_)))
   (case aB => exact (zw3_ HB GE1088 GE1089 GE1097))
   (case aF => exact (fun k_ hk => ⟨Kd.fresh' (Kd.R_lt (zr_ HO_1098000.out)) k_ hk, Kd.fresh' (Kd.R_lt (zr_ HO1101.out)) k_ hk⟩))
   (case aO => exact (zr_ HO1111.out))
   (case aS => exact (below_size (zw3_ HB GE1088 GE1089 GE1097)))
   (case aL => have := LMc22.out; omega)
   intro v1117 w37 ho hb hg hat
   rw [← Ny1116.out] at ho
   replace HO_1098000 := zA_ (Kd.R_after (ok := (fun k_ => some k_ ≠ (.slice Ao32 t1098.length co32 : Value).ownBlock)) (zr_ HO_1098000.out) hg hat)
   replace HO_1098001 := zA_ (Kd.R_over' (zr_ HO_1098001.out) (Kd.R_typed (zr_ HO1111.out)) (by decide) hg)
   replace BK1088 := zA_ (zh_ BK1088 hg (Kd.R_ne HO1111.out BK1088.out (by decide)))
   replace BK1089 := zA_ (zh_ BK1089 hg (Kd.R_ne HO1111.out BK1089.out (by decide)))
   replace BK1097 := zA_ (zh_ BK1097 hg (Kd.R_ne HO1111.out BK1097.out (by decide)))
   replace HB := zA_ (hb)
   replace HR1108 := zA_ ((show Kd.C (Kd.int .i64) w37 Ao32 y1105.length y1105 from by rw [Ny1105.out]; exact Kd.C_take (m := (a2 : Int).toNat) ((Kd.R_reads' (Kd.R_after (ok := (fun k_ => some k_ ≠ (.slice Ao9 t1090.length co9 : Value).ownBlock)) (zr_ HO1101.out) hg hat)).2.2) KL31.out))
   replace HR1115 := zA_ ((show Kd.C (Kd.int .i64) w37 A33 y1112.length y1112 from by rw [Ny1112.out, KA33.out]; exact Kd.C_drop (m := ((ji19) : Int).toNat) (c := co32) ((Kd.R_reads' (Kd.R_after (ok := (fun k_ => some k_ ≠ (.slice Ao9 t1090.length co9 : Value).ownBlock)) (zr_ HO1101.out) hg hat)).2.2) KL33.out ((Kd.R_reads' (Kd.R_after (ok := (fun k_ => some k_ ≠ (.slice Ao9 t1090.length co9 : Value).ownBlock)) (zr_ HO1101.out) hg hat)).2.1)))
   replace HO1101 := zA_ (Kd.R_after (ok := (fun k_ => some k_ ≠ (.slice Ao9 t1090.length co9 : Value).ownBlock)) (zr_ HO1101.out) hg hat)
   have HO1118 := zA_ (ho)
   clear HO1111
   clear ho hb hg hat
   refine hK.out _ _ trivial (fun hHeld => ?_)
   clear hK K
   refine zq_ (some 41) (h := ?_)
   refine yp_ ?_ 10 12
   refine done_ (done_of HT_.out (by kernel_rfl)) ?_
   have hnb38 := NB1088_1089.out
   have hnc38 := NB1089_1088.out
   have hnb39 := NB1088_1097.out
   have hnc39 := NB1097_1088.out
   have hcz40_0 := zx_ (v := .slice A0_0 l0_0.length c0_0) BK1088 0
   have hcz40_1 := zx_ (v := .slice A0_1 l0_1.length c0_1) BK1088 1
   have hfz40_0 := blk_frozen BK1088.out 0
   have hfz40_1 := blk_frozen BK1088.out 1
   obtain ⟨Ao41, co41, eo41⟩ := Kd.R_slice HO1118.out
   subst eo41
   try go_wp2_with (first | ((with_reducible refine gate_callee (f := 368) rfl ?_); refine zg_ (some 46) Tryz.func368 #[.slice A0_0 l0_0.length c0_0, .slice Ao41 y1116.length co41] (h := ?_); (with_reducible refine (shape_At.calls k1 _ _ l0_0 _ _ y1116 t1119 t1120 _ ?side1 ?side2 ?side3 ?side4 A23.out).mono ?_); (case side1 => exact zk_ (Kd.C_below HR0_0.out HB.out)); (case side2 => exact HC0_0.out); (case side3 => exact zk_ ((Kd.R_reads' HO1118.out).2.2)); (case side4 => exact (Kd.R_reads' HO1118.out).2.1); rintro e w' ⟨rfl, ⟨nd, rfl⟩⟩; refine ⟨_, rfl, ?_⟩; (try (rw [drewN_self w37]; generalize hq_ : World.drewN w37 _ = w37; have n0_ : Aside0 (Kd.R (Kd.int .i64) 3 w37 w.heap.size (fun k_ => some k_ ≠ (.slice Ao41 y1116.length co41 : Value).ownBlock ∧ some k_ ≠ (.slice Ao9 t1090.length co9 : Value).ownBlock) (.slice Ao32 t1098.length co32) t1098) := ⟨by rw [← hq_]; exact (zr_ (Kd.R_mono HO1101.out (fun _ hk => ⟨hk.2, hk.1⟩)))⟩; have n1_ : Aside0 (Kd.R (Kd.int .i64) 3 w37 w.heap.size (fun k_ => some k_ ≠ (.slice Ao32 t1098.length co32 : Value).ownBlock ∧ some k_ ≠ (.slice Ao9 t1090.length co9 : Value).ownBlock) (.slice Ao41 y1116.length co41) y1116) := ⟨by rw [← hq_]; exact (zr_ (Kd.R_mono HO1118.out (fun _ hk => ⟨hk.2, hk.1⟩)))⟩; have n2_ : Aside0 (Kd.R (Kd.int .i64) 3 w37 w.heap.size (fun k_ => some k_ ≠ (.slice Ao32 t1098.length co32 : Value).ownBlock ∧ some k_ ≠ (.slice Ao41 y1116.length co41 : Value).ownBlock) (.slice Ao9 t1090.length co9) t1090) := ⟨by rw [← hq_]; exact (zr_ HO_1098000.out)⟩; have n3_ : Aside0 (Kd.R (Kd.int .i64) 36 w37 w.heap.size (fun _ => True) u1098001 x1098001_1) := ⟨by rw [← hq_]; exact (zr_ HO_1098001.out)⟩; have n4_ : Aside0 (w37.heap[gb1088]? = some (.cells #[.slice A0_0 l0_0.length c0_0, .slice A0_1 l0_1.length c0_1] 273 (0, 0))) := ⟨by rw [← hq_]; exact (zb_ BK1088)⟩; have n5_ : Aside0 (w37.heap[gb1089]? = some (.cells #[.slice none 0 0, .slice none 0 0] 273 (0, 0))) := ⟨by rw [← hq_]; exact (zb_ BK1089)⟩; have n6_ : Aside0 (w37.heap[gb1097]? = some (.cells #[.slice Ao9 t1090.length co9, u1098001] 273 (0, 0))) := ⟨by rw [← hq_]; exact (zb_ BK1097)⟩; have n7_ : Aside0 (Below w.heap.size w w37) := ⟨by rw [← hq_]; exact (zw3_ HB GE1088 GE1089 GE1097)⟩; have n8_ : Aside0 (Kd.C (Kd.int .i64) w37 Ao32 y1105.length y1105) := ⟨by rw [← hq_]; exact (by repeat (first | (with_reducible exact HR1108.out) | (with_reducible refine Kd.C_alloc ?_ _) | (with_reducible refine Kd.C_drewN ?_ _) | (with_reducible refine Kd.C_drew ?_) | exact HR1108.out))⟩; have n9_ : Aside0 (Kd.C (Kd.int .i64) w37 A33 y1112.length y1112) := ⟨by rw [← hq_]; exact (by repeat (first | (with_reducible exact HR1115.out) | (with_reducible refine Kd.C_alloc ?_ _) | (with_reducible refine Kd.C_drewN ?_ _) | (with_reducible refine Kd.C_drew ?_) | exact HR1115.out))⟩; clear HO1101 HO1118 HO_1098000 HO_1098001 BK1088 BK1089 BK1097 HB HR1108 HR1115 hq_; have HO1101 := n0_; have HO1118 := n1_; have HO_1098000 := n2_; have HO_1098001 := n3_; have BK1088 := n4_; have BK1089 := n5_; have BK1097 := n6_; have HB := n7_; have HR1108 := n8_; have HR1115 := n9_; clear n0_ n1_ n2_ n3_ n4_ n5_ n6_ n7_ n8_ n9_; (try (have hcz40_0 := zx_ (v := .slice A0_0 l0_0.length c0_0) BK1088 0)); (try (have hcz40_1 := zx_ (v := .slice A0_1 l0_1.length c0_1) BK1088 1)); (try (have hfz40_0 := blk_frozen BK1088.out 0)); (try (have hfz40_1 := blk_frozen BK1088.out 1))))))
   replace HO_1098000 := zA_ (Kd.R_drew HO_1098000.out)
   replace HO_1098001 := zA_ (Kd.R_drew HO_1098001.out)
   replace HO1101 := zA_ (Kd.R_drew HO1101.out)
   replace HO1118 := zA_ (Kd.R_drew HO1118.out)
   replace BK1088 := zA_ (blk_drew BK1088.out)
   replace BK1089 := zA_ (blk_drew BK1089.out)
   replace BK1097 := zA_ (blk_drew BK1097.out)
   replace HR1108 := zA_ (Kd.C_drew HR1108.out)
   replace HR1115 := zA_ (Kd.C_drew HR1115.out)
   replace HB := zA_ (below_drew1 HB.out)
   have p1121 : 0 ≤ (t1119 : Int) := zD_
   have q1121 : t1119 < (l0_1.length : Int) := zD_
   obtain ⟨ad1121, e1121, hx1121_0⟩ := Kd.at_int HR0_1.out t1119 p1121 q1121
   have hw1121_0 := hx1121_0
   cases e1121
   replace hx1121_0 := (HB.out.cell (World.block_lt_of_cell? w _ hx1121_0)).trans hx1121_0
   replace p1121 := eq_true p1121
   replace q1121 := eq_true q1121
   have p28 : 0 ≤ (x23_1 : Int) := zD_
   have q28 : (x23_1 : Int) < ((x1098001_1.length : Int) : Int) := zD_
   obtain ⟨go28, co28, eo28, gb28, gl28, cl28, HG28⟩ := Kd.R_form HO_1098001.out (by omega)
   (first | cases eo28 | (injection eo28 with ea_ en_ ec_; (first | subst ea_ | (injection ea_ with ea_; subst ea_)); subst ec_; clear en_))
   have GB28 := zA_ gb28
   have GG28 := zA_ HG28
   clear gb28 gl28 HG28
   obtain ⟨hx28_0, hf28_0⟩ := Kd.R_celln 0 HO_1098001.out (x23_1 : Int) p28 q28
   replace p28 := eq_true p28
   replace q28 := eq_true q28
   have HP43 := Kd.R_putn HO_1098001.out (x23_1 : Int) (rd l0_1 t1119)
   rw [← Ny1122.out] at HP43
   have HQ43 := zA_ HP43
   clear HP43
   refine start_ (n := 10) (S := fun w' => w'.cell? ⟨gb1097, 0, none⟩ = some (.slice Ao9 t1090.length co9) ∧ w'.cell? ⟨gb1097, 1, none⟩ = some (.slice (some ⟨go28, 0, none⟩) x1098001_1.length co28) ∧ w'.cell? ⟨gb1088, 0, none⟩ = some (.slice A0_0 l0_0.length c0_0) ∧ w'.cell? ⟨gb1088, 1, none⟩ = some (.slice (some ad1121) l0_1.length c0_1) ∧ w'.cell? (ad1121.add (t1119).toNat) = some (.int .i64 (rd l0_1 t1119))) (ds := [9]) #[false, false, false, false, false, false, false, false, false, false] (by kernel_rfl) rfl rfl ⟨(blk_cell BK1097.out 0).trans rfl, (blk_cell BK1097.out 1).trans rfl, (blk_cell BK1088.out 0).trans rfl, (blk_cell BK1088.out 1).trans rfl, ((HB.out.cell (World.block_lt_of_cell? w _ hw1121_0)).trans hw1121_0)⟩ (fun hHeld => ?_); refine with_tabW back_spread.tab8 back_spread.bits8 (fun HT_ HW_ => ?_)
   generalize w37.drew = w42 at HO_1098000 HO_1098001 HO1101 HO1118 BK1088 BK1089 BK1097 HR1108 HR1115 HB GG28 HQ43 hf28_0 hx1121_0 hx28_0 hHeld ⊢
   refine yp_ ?_ 0 49
   refine yp_ ?_ 2 51
   refine yp_ ?_ 3 52
   refine yp_ ?_ 5 54
   refine yt5_ ?_ 1 50
   refine yt5_ ?_ 4 53
   refine yp_ ?_ 6 55
   refine yt5_ ?_ 7 56
   refine yp_ ?_ 8 57
   refine yl_ 9 none (fun K hK => ?_)
   refine skip_ (w1 := ?_) (by rfl) rfl ?_ ?_
   rotate_left
   ·go_simp
    rfl
   refine hK.out _ _ ?_
   clear hK K
   refine done_ (done_of HT_.out (by kernel_rfl)) ?_
   try go_wp2
   go_roundg k1
   case measure => have := HK1.out; omega
   case rel => exact ⟨(wrap64 (x23_1 + 1)), (y1122), (.slice (some ⟨go28, 0, none⟩) x1098001_1.length co28), z1_, H', ⟨by have := HK1.out; omega⟩, ⟨zr_ (Kd.R_mono (Kd.R_far (p := ⟨go28, (x23_1 : Int).toNat, none⟩) (Kd.R_types HO_1098000.out GG28.out (by decide)) (fun _ hk => hk.2) (.int .i64 (rd l0_1 t1119))) (fun _ hk => trivial))⟩, ⟨zr_ HQ43.out⟩, ⟨by (with_reducible repeat (first | refine blk_drewN ?_ _ | refine blk_drew ?_ | refine blk_alloc ?_ _)); refine blk_far ?_ (by have h_ := Kd.R_ne HO_1098001.out BK1088.out (by decide); intro e_; exact h_ (by rw [e_]; rfl)) _; (with_reducible repeat (first | refine blk_drewN ?_ _ | refine blk_drew ?_ | refine blk_alloc ?_ _)); exact BK1088.out⟩, ⟨by (with_reducible repeat (first | refine blk_drewN ?_ _ | refine blk_drew ?_ | refine blk_alloc ?_ _)); refine blk_far ?_ (by have h_ := Kd.R_ne HO_1098001.out BK1089.out (by decide); intro e_; exact h_ (by rw [e_]; rfl)) _; (with_reducible repeat (first | refine blk_drewN ?_ _ | refine blk_drew ?_ | refine blk_alloc ?_ _)); exact BK1089.out⟩, ⟨by (with_reducible repeat (first | refine blk_drewN ?_ _ | refine blk_drew ?_ | refine blk_alloc ?_ _)); refine blk_far ?_ (by have h_ := Kd.R_ne HO_1098001.out BK1097.out (by decide); intro e_; exact h_ (by rw [e_]; rfl)) _; (with_reducible repeat (first | refine blk_drewN ?_ _ | refine blk_drew ?_ | refine blk_alloc ?_ _)); exact BK1097.out⟩, ⟨by repeat (first | (with_reducible first | exact HB.out | apply below_alloc | apply pw_below_drewN | apply below_drew1 | refine below_set ?_ GB28.out | refine below_set ?_ GE1088.out | refine below_set ?_ GE1089.out | refine below_set ?_ GE1097.out) | exact HB.out)⟩⟩
def back_forA.j0 : Nat → Int → Bool → Int → Int → Int → Int → List Int → List Int → List Int → List Int → List Int → List Int → List Int → List Int → Option (List Int × List Int × Int)
 | 0, _, _, _, _, _, _, _, _, _, _, _, _, _, _ => none
 | k + 1, x13, x14, x1209000, x1209001, x1209002, x1209003, x1209004, x1209005, x1210000, x1210001, x1211000, x1211001, x1212000, x1212001 => if x14 = true then ((tens_Fold.f k x1212000 x1212001 x1210000).bind fun bt1213 => (some (bt1213.1, bt1213.2.1, bt1213.2.2))) else (if x13 = 4 then ((tens_Mul.f k x1212000 x1212001 x1211000 x1211001).bind fun bt1220 => ((back_folded.f k bt1220.1 bt1220.2.1 bt1220.2.2 x1210000).bind fun bt1228 => (some (bt1228.1, bt1228.2.1, bt1228.2.2)))) else (if x13 = 5 then (none) else (if x13 = 6 then (none) else (if x13 = 7 then (none) else (if x13 = 8 then ((back_spread.f k x1212000 x1212001 x1210000 x1209003).bind fun bt1235 => (some (bt1235.1, bt1235.2, 0))) else (if x13 = 9 then (none) else (if x13 = 10 then (if 0 < (x1212001.length : Int) then ((wide_Of.f (rd x1212001 0)).bind fun bt1242 => ((wide_Over.f k bt1242.1 bt1242.2 (x1210001.length : Int)).bind fun t1244 => ((tens_New.f k x1210000 t1244).bind fun bt1245 => (some (bt1245.1, bt1245.2.1, bt1245.2.2))))) else (none)) else (if x13 = 11 then (none) else (if x13 = 12 then (none) else (if x13 = 13 then (none) else (if x13 = 14 then (none) else (some (([] : List Int), ([] : List Int), 0)))))))))))))
def back_forA.f (k : Nat) (a0_0 : Int) (a0_1 : Int) (a0_2 : Int) (a0_3 : Int) (l0_4 : List Int) (l0_5 : List Int) (l1_0 : List Int) (l1_1 : List Int) (l2_0 : List Int) (l2_1 : List Int) (l3_0 : List Int) (l3_1 : List Int) : Option (List Int × List Int × Int) := if a0_0 = 2 then (back_forA.j0 k a0_0 (a0_0 == 2) a0_0 a0_1 a0_2 a0_3 l0_4 l0_5 l1_0 l1_1 l2_0 l2_1 l3_0 l3_1) else (back_forA.j0 k a0_0 (a0_0 == 3) a0_0 a0_1 a0_2 a0_3 l0_4 l0_5 l1_0 l1_1 l2_0 l2_1 l3_0 l3_1)
def back_forA.T19 : Bool × List (List Nat × List Nat) := (true, [([], []), ([0], [0]), ([], []), ([2], [2]), ([3], [3]), ([4], [4]), ([5], [5]), ([], []), ([7], [7]), ([8], [8]), ([6, 9, 6], [6, 9]), ([1, 10, 10], [1, 10]), ([11], [11]), ([11], [11]), ([12, 11, 0, 1, 2, 3, 4, 5, 6, 7, 8, 9, 10, 11, 12, 13], [12]), ([13, 14, 0, 1, 2, 3, 4, 5, 6, 7, 8, 9, 10, 11, 12, 13, 14], [13])])
def back_forA.B19 : List Nat := [0, 1, 0, 4, 12, 28, 60, 0, 128, 384, 1020, 2047, 4095, 4095, 16383, 32767]
theorem back_forA.tab19 : rtab .any (opsOf Tryz.f310 19) = back_forA.T19 := by kernel_rfl
theorem back_forA.bits19 : waitsOk back_forA.T19.2 back_forA.B19 = true := by kernel_rfl
theorem back_forA.calls (k : Nat) (a0_0 : Int) (a0_1 : Int) (a0_2 : Int) (a0_3 : Int) (A0_4 : Option Addr) (c0_4 : Nat) (l0_4 : List Int) (A0_5 : Option Addr) (c0_5 : Nat) (l0_5 : List Int) (A1_0 : Option Addr) (c1_0 : Nat) (l1_0 : List Int) (A1_1 : Option Addr) (c1_1 : Nat) (l1_1 : List Int) (A2_0 : Option Addr) (c2_0 : Nat) (l2_0 : List Int) (A2_1 : Option Addr) (c2_1 : Nat) (l2_1 : List Int) (A3_0 : Option Addr) (c3_0 : Nat) (l3_0 : List Int) (A3_1 : Option Addr) (c3_1 : Nat) (l3_1 : List Int) (r1 : List Int) (r2 : List Int) (r3 : Int) (w : World) (hr0_4 : Kd.C (Kd.int .i64) w A0_4 l0_4.length l0_4) (hc0_4 : l0_4.length ≤ c0_4) (hr0_5 : Kd.C (Kd.int .i64) w A0_5 l0_5.length l0_5) (hc0_5 : l0_5.length ≤ c0_5) (hr1_0 : Kd.C (Kd.int .i64) w A1_0 l1_0.length l1_0) (hc1_0 : l1_0.length ≤ c1_0) (hr1_1 : Kd.C (Kd.int .i64) w A1_1 l1_1.length l1_1) (hc1_1 : l1_1.length ≤ c1_1) (hr2_0 : Kd.C (Kd.int .i64) w A2_0 l2_0.length l2_0) (hc2_0 : l2_0.length ≤ c2_0) (hr2_1 : Kd.C (Kd.int .i64) w A2_1 l2_1.length l2_1) (hc2_1 : l2_1.length ≤ c2_1) (hr3_0 : Kd.C (Kd.int .i64) w A3_0 l3_0.length l3_0) (hc3_0 : l3_0.length ≤ c3_0) (hr3_1 : Kd.C (Kd.int .i64) w A3_1 l3_1.length l3_1) (hc3_1 : l3_1.length ≤ c3_1) (h : back_forA.f k a0_0 a0_1 a0_2 a0_3 l0_4 l0_5 l1_0 l1_1 l2_0 l2_1 l3_0 l3_1 = some (r1, r2, r3)) :
  Calls Tryz.prog 310 #[.agg #[.int .i64 a0_0, .int .i64 a0_1, .int .i64 a0_2, .int .i64 a0_3, .slice A0_4 l0_4.length c0_4, .slice A0_5 l0_5.length c0_5], .agg #[.slice A1_0 l1_0.length c1_0, .slice A1_1 l1_1.length c1_1], .agg #[.slice A2_0 l2_0.length c2_0, .slice A2_1 l2_1.length c2_1], .agg #[.slice A3_0 l3_0.length c3_0, .slice A3_1 l3_1.length c3_1]] w fun e w' => ∃ v0_ v1_ : Value, e = .returned (.tuple #[.agg #[v0_, v1_], .int .i64 r3]) ∧ Kd.R (Kd.int .i64) 3 w' w.heap.size (fun _ => True) v0_ r1 ∧ Kd.R (Kd.int .i64) 36 w' w.heap.size (fun _ => True) v1_ r2 ∧ Below w.heap.size w w' := by
 have hu358 := Tryz.underlying358
 have hu273 := Tryz.underlying273
 have HR0_4 := zA_ hr0_4
 have HC0_4 := zA_ hc0_4
 clear hr0_4 hc0_4
 have HR0_5 := zA_ hr0_5
 have HC0_5 := zA_ hc0_5
 clear hr0_5 hc0_5
 have HR1_0 := zA_ hr1_0
 have HC1_0 := zA_ hc1_0
 clear hr1_0 hc1_0
 have HR1_1 := zA_ hr1_1
 have HC1_1 := zA_ hc1_1
 clear hr1_1 hc1_1
 have HR2_0 := zA_ hr2_0
 have HC2_0 := zA_ hc2_0
 clear hr2_0 hc2_0
 have HR2_1 := zA_ hr2_1
 have HC2_1 := zA_ hc2_1
 clear hr2_1 hc2_1
 have HR3_0 := zA_ hr3_0
 have HC3_0 := zA_ hc3_0
 clear hr3_0 hc3_0
 have HR3_1 := zA_ hr3_1
 have HC3_1 := zA_ hc3_1
 clear hr3_1 hc3_1
 have HB := zA_ (Below.refl w.heap.size w)
 have H : (if a0_0 = 2 then (back_forA.j0 k a0_0 (a0_0 == 2) a0_0 a0_1 a0_2 a0_3 l0_4 l0_5 l1_0 l1_1 l2_0 l2_1 l3_0 l3_1) else (back_forA.j0 k a0_0 (a0_0 == 3) a0_0 a0_1 a0_2 a0_3 l0_4 l0_5 l1_0 l1_1 l2_0 l2_1 l3_0 l3_1)) = some (r1, r2, r3) := h
 clear h
 have HC5 := zA_ H
 clear H
 go_enter Tryz.func310, Tryz.ntmps310
 go_upto_if 14 with (first | ((with_reducible refine gate_dst (N := 4) rfl ?_); refine zB_ (#[.int .i64 a0_0, .int .i64 a0_1, .int .i64 a0_2, .int .i64 a0_3, .slice A0_4 l0_4.length c0_4, .slice A0_5 l0_5.length c0_5]) 358 ?_; intro gb1208 hg w6 hbox hb; have BK1208 := zA_ (hbox); have GW1208 := zA_ (zs_ hg (zw0_ HB)); have GE1208 := zA_ (zs_ hg (zw0_ HB)); replace HB := zA_ (below_step (zw0_ HB) hb); clear hb hbox hg) | ((with_reducible refine gate_dst (N := 5) rfl ?_); refine zB_ (#[.slice A1_0 l1_0.length c1_0, .slice A1_1 l1_1.length c1_1]) 273 ?_; intro gb1209 hg w7 hbox hb; have BK1209 := zA_ (hbox); have GW1209 := zA_ (zs_ hg (zw1_ HB GE1208)); have GE1209 := zA_ (zs_ hg (zw1_ HB GE1208)); replace HB := zA_ (below_step (zw1_ HB GE1208) hb); have NB1208_1209 := zA_ (zn_ hg BK1208); have NB1209_1208 := zA_ (zm_ hg BK1208); replace BK1208 := za_ BK1208 hb; clear hb hbox hg) | ((with_reducible refine gate_dst (N := 6) rfl ?_); refine zB_ (#[.slice A2_0 l2_0.length c2_0, .slice A2_1 l2_1.length c2_1]) 273 ?_; intro gb1210 hg w8 hbox hb; have BK1210 := zA_ (hbox); have GW1210 := zA_ (zs_ hg (zw2_ HB GE1208 GE1209)); have GE1210 := zA_ (zs_ hg (zw2_ HB GE1208 GE1209)); replace HB := zA_ (below_step (zw2_ HB GE1208 GE1209) hb); have NB1208_1210 := zA_ (zn_ hg BK1208); have NB1210_1208 := zA_ (zm_ hg BK1208); replace BK1208 := za_ BK1208 hb; have NB1209_1210 := zA_ (zn_ hg BK1209); have NB1210_1209 := zA_ (zm_ hg BK1209); replace BK1209 := za_ BK1209 hb; clear hb hbox hg) | ((with_reducible refine gate_dst (N := 7) rfl ?_); refine zB_ (#[.slice A3_0 l3_0.length c3_0, .slice A3_1 l3_1.length c3_1]) 273 ?_; intro gb1211 hg w9 hbox hb; have BK1211 := zA_ (hbox); have GW1211 := zA_ (zs_ hg (zw3_ HB GE1208 GE1209 GE1210)); have GE1211 := zA_ (zs_ hg (zw3_ HB GE1208 GE1209 GE1210)); replace HB := zA_ (below_step (zw3_ HB GE1208 GE1209 GE1210) hb); have NB1208_1211 := zA_ (zn_ hg BK1208); have NB1211_1208 := zA_ (zm_ hg BK1208); replace BK1208 := za_ BK1208 hb; have NB1209_1211 := zA_ (zn_ hg BK1209); have NB1211_1209 := zA_ (zm_ hg BK1209); replace BK1209 := za_ BK1209 hb; have NB1210_1211 := zA_ (zn_ hg BK1210); have NB1211_1210 := zA_ (zm_ hg BK1210); replace BK1210 := za_ BK1210 hb; clear hb hbox hg) | ((with_reducible refine gate_dst (N := 8) rfl ?_); refine zB_ (#[.slice none 0 0, .slice none 0 0]) 273 ?_; intro gb1212 hg w10 hbox hb; have BK1212 := zA_ (hbox); have GW1212 := zA_ (zs_ hg (zw4_ HB GE1208 GE1209 GE1210 GE1211)); have GE1212 := zA_ (zs_ hg (zw4_ HB GE1208 GE1209 GE1210 GE1211)); replace HB := zA_ (below_step (zw4_ HB GE1208 GE1209 GE1210 GE1211) hb); have NB1208_1212 := zA_ (zn_ hg BK1208); have NB1212_1208 := zA_ (zm_ hg BK1208); replace BK1208 := za_ BK1208 hb; have NB1209_1212 := zA_ (zn_ hg BK1209); have NB1212_1209 := zA_ (zm_ hg BK1209); replace BK1209 := za_ BK1209 hb; have NB1210_1212 := zA_ (zn_ hg BK1210); have NB1212_1210 := zA_ (zm_ hg BK1210); replace BK1210 := za_ BK1210 hb; have NB1211_1212 := zA_ (zn_ hg BK1211); have NB1212_1211 := zA_ (zm_ hg BK1211); replace BK1211 := za_ BK1211 hb; clear hb hbox hg; have hnb11 := NB1208_1209.out; have hnc11 := NB1209_1208.out; have hnb12 := NB1208_1210.out; have hnc12 := NB1210_1208.out; have hnb13 := NB1208_1211.out; have hnc13 := NB1211_1208.out; have hnb14 := NB1208_1212.out; have hnc14 := NB1212_1208.out; have hcz15_0 := zx_ (v := .int .i64 a0_0) BK1208 0; have hcz15_1 := zx_ (v := .int .i64 a0_1) BK1208 1; have hcz15_2 := zx_ (v := .int .i64 a0_2) BK1208 2; have hcz15_3 := zx_ (v := .int .i64 a0_3) BK1208 3; have hcz15_4 := zx_ (v := .slice A0_4 l0_4.length c0_4) BK1208 4; have hcz15_5 := zx_ (v := .slice A0_5 l0_5.length c0_5) BK1208 5; have hfz15_0 := blk_frozen BK1208.out 0; have hfz15_1 := blk_frozen BK1208.out 1; have hfz15_2 := blk_frozen BK1208.out 2; have hfz15_3 := blk_frozen BK1208.out 3; have hfz15_4 := blk_frozen BK1208.out 4; have hfz15_5 := blk_frozen BK1208.out 5))
 (try simp only [Act.put, List.setIfInBounds_toArray, List.set_cons_zero, List.set_cons_succ])
 go_cut [14] (fun v14 wc => ∃ (kq : Nat) (x14_4 : Bool), v14 = .bool x14_4 ∧ Aside0 (back_forA.j0 kq a0_0 x14_4 a0_0 a0_1 a0_2 a0_3 l0_4 l0_5 l1_0 l1_1 l2_0 l2_1 l3_0 l3_1 = some (r1, r2, r3)) ∧ Aside0 (kq ≤ k) ∧ Aside0 (wc.heap[gb1208]? = some (.cells #[.int .i64 a0_0, .int .i64 a0_1, .int .i64 a0_2, .int .i64 a0_3, (.slice A0_4 l0_4.length c0_4), (.slice A0_5 l0_5.length c0_5)] 358 (0, 0))) ∧ Aside0 (wc.heap[gb1209]? = some (.cells #[(.slice A1_0 l1_0.length c1_0), (.slice A1_1 l1_1.length c1_1)] 273 (0, 0))) ∧ Aside0 (wc.heap[gb1210]? = some (.cells #[(.slice A2_0 l2_0.length c2_0), (.slice A2_1 l2_1.length c2_1)] 273 (0, 0))) ∧ Aside0 (wc.heap[gb1211]? = some (.cells #[(.slice A3_0 l3_0.length c3_0), (.slice A3_1 l3_1.length c3_1)] 273 (0, 0))) ∧ Aside0 (wc.heap[gb1212]? = some (.cells #[(.slice none 0 0), (.slice none 0 0)] 273 (0, 0))) ∧ Aside0 (Below w.heap.size w wc))
 case first =>
  have H := HC5.out
  clear HC5
  by_cases c16 : a0_0 = 2
  rotate_left
  ·rw [if_neg c16] at H
   have c16b0 : (a0_0 == 2) = false := beq_eq_false_iff_ne.mpr c16
   have c16b1 : (a0_0 != 2) = true := bne_iff_ne.mpr c16
   (first | rw [c16b0] | (simp only [i64_w, i32_w]; rw [c16b0]) | skip)
   have H' := zA_ H
   clear H
   go_wp2
   go_meet
   case rel => exact ⟨_, ((a0_0 == 3)), z1_, H', ⟨by first | omega | exact Nat.le_refl _⟩, ⟨zb_ BK1208⟩, ⟨zb_ BK1209⟩, ⟨zb_ BK1210⟩, ⟨zb_ BK1211⟩, ⟨zb_ BK1212⟩, ⟨zw5_ HB GE1208 GE1209 GE1210 GE1211 GE1212⟩⟩
  rw [if_pos c16] at H
  have c16b0 : (a0_0 == 2) = true := beq_iff_eq.mpr c16
  have c16b1 : (a0_0 != 2) = false := bne_eq_false_iff_eq.mpr c16
  clear c16
  (first | rw [c16b0] | (simp only [i64_w, i32_w]; rw [c16b0]) | skip)
  have H' := zA_ H
  clear H
  go_wp2
  go_meet
  case rel => exact ⟨_, ((a0_0 == 2)), z1_, H', ⟨by first | omega | exact Nat.le_refl _⟩, ⟨zb_ BK1208⟩, ⟨zb_ BK1209⟩, ⟨zb_ BK1210⟩, ⟨zb_ BK1211⟩, ⟨zb_ BK1212⟩, ⟨zw5_ HB GE1208 GE1209 GE1210 GE1211 GE1212⟩⟩
 case rest =>
  clear HC5
  try clear p2
  try clear c16b0
  try clear c16b1
  try clear hcz15_0
  try clear hcz15_1
  try clear hcz15_2
  try clear hcz15_3
  try clear hcz15_4
  try clear hcz15_5
  try clear hfz15_0
  try clear hfz15_1
  try clear hfz15_2
  try clear hfz15_3
  try clear hfz15_4
  try clear hfz15_5
  obtain ⟨kq, x14_4, rfl, HA, HJ4, BK1208, BK1209, BK1210, BK1211, BK1212, HB⟩ := hcut
  cases kq with
  | zero => exact absurd HA.out (by simp [back_forA.j0])
  | succ kj4 =>
   have H := HA.out
   clear HA
   simp only [back_forA.j0] at H
   by_cases c17 : x14_4 = true
   ·subst c17
    have H1 := H
    rw [if_pos rfl] at H1
    clear H
    have H := H1
    clear H1
    replace H := zO_ H
    obtain ⟨⟨t1213, t1216, t1219⟩, A180, H⟩ := H
    replace H : (some (t1213, t1216, t1219)) = some (r1, r2, r3) := H
    have A18 := zA_ A180
    clear A180
    simp only [Option.some.injEq, Prod.mk.injEq] at H
    obtain ⟨rfl, rfl, rfl⟩ := H
    have hnb19 := NB1211_1208.out
    have hnc19 := NB1208_1211.out
    have hnb20 := NB1211_1209.out
    have hnc20 := NB1209_1211.out
    have hnb21 := NB1211_1210.out
    have hnc21 := NB1210_1211.out
    have hnb22 := NB1211_1212.out
    have hnc22 := NB1212_1211.out
    have hcz23_0 := zx_ (v := .slice A3_0 l3_0.length c3_0) BK1211 0
    have hcz23_1 := zx_ (v := .slice A3_1 l3_1.length c3_1) BK1211 1
    have hfz23_0 := blk_frozen BK1211.out 0
    have hfz23_1 := blk_frozen BK1211.out 1
    have hnb24 := NB1209_1208.out
    have hnc24 := NB1208_1209.out
    have hnb25 := NB1209_1210.out
    have hnc25 := NB1210_1209.out
    have hnb26 := NB1209_1212.out
    have hnc26 := NB1212_1209.out
    have hcz27_0 := zx_ (v := .slice A1_0 l1_0.length c1_0) BK1209 0
    have hcz27_1 := zx_ (v := .slice A1_1 l1_1.length c1_1) BK1209 1
    have hfz27_0 := blk_frozen BK1209.out 0
    have hfz27_1 := blk_frozen BK1209.out 1
    go_wp2_with (first | ((with_reducible refine gate_callee (f := 340) rfl ?_); refine zg_ (some 20) Tryz.func340 #[.agg #[.slice A3_0 l3_0.length c3_0, .slice A3_1 l3_1.length c3_1], .slice A1_0 l1_0.length c1_0] (h := ?_); (with_reducible refine (tens_Fold.calls kj4 _ _ l3_0 _ _ l3_1 _ _ l1_0 t1213 t1216 t1219 _ ?side1 ?side2 ?side3 ?side4 ?side5 ?side6 A18.out).mono ?_); (case side1 => exact zk_ (Kd.C_below HR3_0.out HB.out)); (case side2 => exact HC3_0.out); (case side3 => exact zk_ (Kd.C_below HR3_1.out HB.out)); (case side4 => exact HC3_1.out); (case side5 => exact zk_ (Kd.C_below HR1_0.out HB.out)); (case side6 => exact HC1_0.out); rintro e w28 ⟨v1214, v1217, rfl, ho0, ho1, hb⟩; refine ⟨_, rfl, ?_⟩; have HO1215 := zA_ (Kd.R_lower ho0 (below_size (zw5_ HB GE1208 GE1209 GE1210 GE1211 GE1212))); have HO1218 := zA_ (Kd.R_lower ho1 (below_size (zw5_ HB GE1208 GE1209 GE1210 GE1211 GE1212))); replace BK1208 := za_ BK1208 hb; replace BK1209 := za_ BK1209 hb; replace BK1210 := za_ BK1210 hb; replace BK1211 := za_ BK1211 hb; replace BK1212 := za_ BK1212 hb; replace HB := zA_ (below_step (zw5_ HB GE1208 GE1209 GE1210 GE1211 GE1212) hb); (try clear hb); (try clear ho0); (try clear ho1); obtain ⟨Ao29, co29, eo29⟩ := Kd.R_slice HO1215.out; subst eo29; have hnb30 := NB1212_1208.out; have hnc30 := NB1208_1212.out; have hnb31 := NB1212_1210.out; have hnc31 := NB1210_1212.out; have hcz32_0 := zx_ (v := .slice none 0 0) BK1212 0; have hcz32_1 := zx_ (v := .slice none 0 0) BK1212 1; have hfz32_0 := blk_frozen BK1212.out 0; have hfz32_1 := blk_frozen BK1212.out 1; obtain ⟨Ao33, co33, eo33⟩ := Kd.R_slice HO1218.out; subst eo33))
    refine bodyPost_ret (results_ct rfl _ _ gb1212 273 #[.slice Ao29 t1213.length co29, .slice Ao33 t1216.length co33] (0, 0) _ rfl (zo2_ BK1212) Tryz.underlying273 rfl (by kernel_rfl)) rfl ?_
    exact ⟨_, _, z0_, zr_ (Kd.R_mono (Kd.R_far (p := ⟨gb1212, 1, none⟩) (Kd.R_far (p := ⟨gb1212, 0, none⟩) (Kd.R_types HO1215.out BK1212.out (by decide)) (fun _ hk => hk.2) (.slice Ao29 t1213.length co29)) (fun _ hk => hk.2) (.slice Ao33 t1216.length co33)) (fun _ hk => trivial)), zr_ (Kd.R_mono (Kd.R_far (p := ⟨gb1212, 1, none⟩) (Kd.R_far (p := ⟨gb1212, 0, none⟩) (Kd.R_types HO1218.out BK1212.out (by decide)) (fun _ hk => hk.2) (.slice Ao29 t1213.length co29)) (fun _ hk => hk.2) (.slice Ao33 t1216.length co33)) (fun _ hk => trivial)), zw5_ HB GE1208 GE1209 GE1210 GE1211 GE1212⟩
   replace c17 := Bool.eq_false_iff.mpr c17
   subst c17
   have H1 := H
   rw [if_neg (show ¬ (false = true) by decide)] at H1
   clear H
   have H := H1
   clear H1
   by_cases c34 : a0_0 = 4
   ·rw [if_pos c34] at H
    have c34b0 : (a0_0 == 4) = true := beq_iff_eq.mpr c34
    have c34b1 : (a0_0 != 4) = false := bne_eq_false_iff_eq.mpr c34
    clear c34
    replace H := zO_ H
    obtain ⟨⟨t1220, t1223, t1226⟩, A350, H⟩ := H
    replace H : ((back_folded.f kj4 t1220 t1223 t1226 l1_0).bind fun bt1228 => (some (bt1228.1, bt1228.2.1, bt1228.2.2))) = some (r1, r2, r3) := H
    have A35 := zA_ A350
    clear A350
    replace H := zO_ H
    obtain ⟨⟨t1228, t1231, t1234⟩, A360, H⟩ := H
    replace H : (some (t1228, t1231, t1234)) = some (r1, r2, r3) := H
    have A36 := zA_ A360
    clear A360
    simp only [Option.some.injEq, Prod.mk.injEq] at H
    obtain ⟨rfl, rfl, rfl⟩ := H
    have hnb37 := NB1211_1208.out
    have hnc37 := NB1208_1211.out
    have hnb38 := NB1211_1209.out
    have hnc38 := NB1209_1211.out
    have hnb39 := NB1211_1210.out
    have hnc39 := NB1210_1211.out
    have hnb40 := NB1211_1212.out
    have hnc40 := NB1212_1211.out
    have hcz41_0 := zx_ (v := .slice A3_0 l3_0.length c3_0) BK1211 0
    have hcz41_1 := zx_ (v := .slice A3_1 l3_1.length c3_1) BK1211 1
    have hfz41_0 := blk_frozen BK1211.out 0
    have hfz41_1 := blk_frozen BK1211.out 1
    have hnb42 := NB1210_1208.out
    have hnc42 := NB1208_1210.out
    have hnb43 := NB1210_1209.out
    have hnc43 := NB1209_1210.out
    have hnb44 := NB1210_1212.out
    have hnc44 := NB1212_1210.out
    have hcz45_0 := zx_ (v := .slice A2_0 l2_0.length c2_0) BK1210 0
    have hcz45_1 := zx_ (v := .slice A2_1 l2_1.length c2_1) BK1210 1
    have hfz45_0 := blk_frozen BK1210.out 0
    have hfz45_1 := blk_frozen BK1210.out 1
    go_wp2_with (first | ((with_reducible refine gate_callee (f := 341) rfl ?_); refine zg_ (some 28) Tryz.func341 #[.agg #[.slice A3_0 l3_0.length c3_0, .slice A3_1 l3_1.length c3_1], .agg #[.slice A2_0 l2_0.length c2_0, .slice A2_1 l2_1.length c2_1]] (h := ?_); (with_reducible refine (tens_Mul.calls kj4 _ _ l3_0 _ _ l3_1 _ _ l2_0 _ _ l2_1 t1220 t1223 t1226 _ ?side1 ?side2 ?side3 ?side4 ?side5 ?side6 ?side7 ?side8 A35.out).mono ?_); (case side1 => exact zk_ (Kd.C_below HR3_0.out HB.out)); (case side2 => exact HC3_0.out); (case side3 => exact zk_ (Kd.C_below HR3_1.out HB.out)); (case side4 => exact HC3_1.out); (case side5 => exact zk_ (Kd.C_below HR2_0.out HB.out)); (case side6 => exact HC2_0.out); (case side7 => exact zk_ (Kd.C_below HR2_1.out HB.out)); (case side8 => exact HC2_1.out); rintro e w46 ⟨v1221, v1224, rfl, ho0, ho1, hb⟩; refine ⟨_, rfl, ?_⟩; have HO1222 := zA_ (Kd.R_lower ho0 (below_size (zw5_ HB GE1208 GE1209 GE1210 GE1211 GE1212))); have HO1225 := zA_ (Kd.R_lower ho1 (below_size (zw5_ HB GE1208 GE1209 GE1210 GE1211 GE1212))); replace BK1208 := za_ BK1208 hb; replace BK1209 := za_ BK1209 hb; replace BK1210 := za_ BK1210 hb; replace BK1211 := za_ BK1211 hb; replace BK1212 := za_ BK1212 hb; replace HB := zA_ (below_step (zw5_ HB GE1208 GE1209 GE1210 GE1211 GE1212) hb); (try clear hb); (try clear ho0); (try clear ho1)) | ((with_reducible refine gate_dst (N := 10) rfl ?_); refine zB_ (#[.slice none 0 0, .slice none 0 0]) 273 ?_; intro gb1227 hg w47 hbox hb; replace HO1222 := zy_ HO1222 hb; replace HO1225 := zy_ HO1225 hb; have BK1227 := zA_ (hbox); have GW1227 := zA_ (zs_ hg (zw5_ HB GE1208 GE1209 GE1210 GE1211 GE1212)); have GE1227 := zA_ (zs_ hg (zw5_ HB GE1208 GE1209 GE1210 GE1211 GE1212)); replace HB := zA_ (below_step (zw5_ HB GE1208 GE1209 GE1210 GE1211 GE1212) hb); have NB1208_1227 := zA_ (zn_ hg BK1208); have NB1227_1208 := zA_ (zm_ hg BK1208); replace BK1208 := za_ BK1208 hb; have NB1209_1227 := zA_ (zn_ hg BK1209); have NB1227_1209 := zA_ (zm_ hg BK1209); replace BK1209 := za_ BK1209 hb; have NB1210_1227 := zA_ (zn_ hg BK1210); have NB1227_1210 := zA_ (zm_ hg BK1210); replace BK1210 := za_ BK1210 hb; have NB1211_1227 := zA_ (zn_ hg BK1211); have NB1227_1211 := zA_ (zm_ hg BK1211); replace BK1211 := za_ BK1211 hb; have NB1212_1227 := zA_ (zn_ hg BK1212); have NB1227_1212 := zA_ (zm_ hg BK1212); replace BK1212 := za_ BK1212 hb; clear hb hbox hg; obtain ⟨Ao48, co48, eo48⟩ := Kd.R_slice HO1222.out; subst eo48; have hnb49 := NB1227_1208.out; have hnc49 := NB1208_1227.out; have hnb50 := NB1227_1209.out; have hnc50 := NB1209_1227.out; have hnb51 := NB1227_1210.out; have hnc51 := NB1210_1227.out; have hnb52 := NB1227_1211.out; have hnc52 := NB1211_1227.out; have hnb53 := NB1227_1212.out; have hnc53 := NB1212_1227.out; have hcz54_0 := zx_ (v := .slice none 0 0) BK1227 0; have hcz54_1 := zx_ (v := .slice none 0 0) BK1227 1; have hfz54_0 := blk_frozen BK1227.out 0; have hfz54_1 := blk_frozen BK1227.out 1; obtain ⟨Ao55, co55, eo55⟩ := Kd.R_slice HO1225.out; subst eo55; have hnb56 := NB1209_1208.out; have hnc56 := NB1208_1209.out; have hnb57 := NB1209_1212.out; have hnc57 := NB1212_1209.out; have hcz58_0 := zx_ (v := .slice A1_0 l1_0.length c1_0) BK1209 0; have hcz58_1 := zx_ (v := .slice A1_1 l1_1.length c1_1) BK1209 1; have hfz58_0 := blk_frozen BK1209.out 0; have hfz58_1 := blk_frozen BK1209.out 1) | ((with_reducible refine gate_callee (f := 342) rfl ?_); refine zg_ (some 35) Tryz.func342 #[.agg #[.slice Ao48 t1220.length co48, .slice Ao55 t1223.length co55], .int .i64 t1226, .slice A1_0 l1_0.length c1_0] (h := ?_); (with_reducible refine (back_folded.calls kj4 _ _ t1220 _ _ t1223 t1226 _ _ l1_0 t1228 t1231 t1234 _ ?side1 ?side2 ?side3 ?side4 ?side5 ?side6 A36.out).mono ?_); (case side1 => refine (Kd.R_reads' (e := 3) (base := w.heap.size) (ok := fun k_ => True) (n := t1220.length) (c := co48) ?_).2.2; exact (zr_ ((zf_ HO1222 BK1227 (.slice Ao48 t1220.length co48) (.slice Ao55 t1223.length co55))))); (case side2 => exact (Kd.R_reads' HO1222.out).2.1); (case side3 => refine (Kd.R_reads' (e := 36) (base := w.heap.size) (ok := fun k_ => True) (n := t1223.length) (c := co55) ?_).2.2; exact (zr_ ((zf_ HO1225 BK1227 (.slice Ao48 t1220.length co48) (.slice Ao55 t1223.length co55))))); (case side4 => exact (Kd.R_reads' HO1225.out).2.1); (case side5 => exact Kd.C_below HR1_0.out (zw6_ HB GE1208 GE1209 GE1210 GE1211 GE1212 GE1227)); (case side6 => exact HC1_0.out); rintro e w59 ⟨v1229, v1232, rfl, ho0, ho1, hb⟩; refine ⟨_, rfl, ?_⟩; have HO1230 := zA_ (Kd.R_lower (Kd.R_new' ho0 (Kd.R_lt (zr_ ((zf_ HO1222 BK1227 (.slice Ao48 t1220.length co48) (.slice Ao55 t1223.length co55)))))) (below_size (zw6_ HB GE1208 GE1209 GE1210 GE1211 GE1212 GE1227))); replace HO1222 := zA_ (Kd.R_elder' (zr_ ((zf_ HO1222 BK1227 (.slice Ao48 t1220.length co48) (.slice Ao55 t1223.length co55)))) (Kd.R_base ho0) hb); have HO1233 := zA_ (Kd.R_lower (Kd.R_new' ho1 (Kd.R_lt (zr_ ((zf_ HO1225 BK1227 (.slice Ao48 t1220.length co48) (.slice Ao55 t1223.length co55)))))) (below_size (zw6_ HB GE1208 GE1209 GE1210 GE1211 GE1212 GE1227))); replace HO1225 := zA_ (Kd.R_elder' (zr_ ((zf_ HO1225 BK1227 (.slice Ao48 t1220.length co48) (.slice Ao55 t1223.length co55)))) (Kd.R_base ho1) hb); replace BK1208 := zA_ (blk_below (g := gb1208) (o := .cells #[.int .i64 a0_0, .int .i64 a0_1, .int .i64 a0_2, .int .i64 a0_3, .slice A0_4 l0_4.length c0_4, .slice A0_5 l0_5.length c0_5] 358 (0, 0)) (zv1_ BK1208 NB1208_1227) hb); replace BK1209 := zA_ (blk_below (g := gb1209) (o := .cells #[.slice A1_0 l1_0.length c1_0, .slice A1_1 l1_1.length c1_1] 273 (0, 0)) (zv1_ BK1209 NB1209_1227) hb); replace BK1210 := zA_ (blk_below (g := gb1210) (o := .cells #[.slice A2_0 l2_0.length c2_0, .slice A2_1 l2_1.length c2_1] 273 (0, 0)) (zv1_ BK1210 NB1210_1227) hb); replace BK1211 := zA_ (blk_below (g := gb1211) (o := .cells #[.slice A3_0 l3_0.length c3_0, .slice A3_1 l3_1.length c3_1] 273 (0, 0)) (zv1_ BK1211 NB1211_1227) hb); replace BK1212 := zA_ (blk_below (g := gb1212) (o := .cells #[.slice none 0 0, .slice none 0 0] 273 (0, 0)) (zv1_ BK1212 NB1212_1227) hb); replace BK1227 := zA_ (blk_below (g := gb1227) (o := .cells #[.slice Ao48 t1220.length co48, .slice Ao55 t1223.length co55] 273 (0, 0)) (zo2_ BK1227) hb); replace HB := zA_ (below_step (zw6_ HB GE1208 GE1209 GE1210 GE1211 GE1212 GE1227) hb); (try clear hb); (try clear hk); (try clear ho0); (try clear ho1); obtain ⟨Ao60, co60, eo60⟩ := Kd.R_slice HO1230.out; subst eo60; have hnb61 := NB1212_1208.out; have hnc61 := NB1208_1212.out; have hcz62_0 := zx_ (v := .slice none 0 0) BK1212 0; have hcz62_1 := zx_ (v := .slice none 0 0) BK1212 1; have hfz62_0 := blk_frozen BK1212.out 0; have hfz62_1 := blk_frozen BK1212.out 1; obtain ⟨Ao63, co63, eo63⟩ := Kd.R_slice HO1233.out; subst eo63))
    refine bodyPost_ret (results_ct rfl _ _ gb1212 273 #[.slice Ao60 t1228.length co60, .slice Ao63 t1231.length co63] (0, 0) _ rfl (zo2_ BK1212) Tryz.underlying273 rfl (by kernel_rfl)) rfl ?_
    exact ⟨_, _, z0_, zr_ (Kd.R_mono (Kd.R_far (p := ⟨gb1212, 1, none⟩) (Kd.R_far (p := ⟨gb1212, 0, none⟩) (Kd.R_types HO1230.out BK1212.out (by decide)) (fun _ hk => hk.2) (.slice Ao60 t1228.length co60)) (fun _ hk => hk.2) (.slice Ao63 t1231.length co63)) (fun _ hk => trivial)), zr_ (Kd.R_mono (Kd.R_far (p := ⟨gb1212, 1, none⟩) (Kd.R_far (p := ⟨gb1212, 0, none⟩) (Kd.R_types HO1233.out BK1212.out (by decide)) (fun _ hk => hk.2) (.slice Ao60 t1228.length co60)) (fun _ hk => hk.2) (.slice Ao63 t1231.length co63)) (fun _ hk => trivial)), zw6_ HB GE1208 GE1209 GE1210 GE1211 GE1212 GE1227⟩
   rw [if_neg c34] at H
   have c34b0 : (a0_0 == 4) = false := beq_eq_false_iff_ne.mpr c34
   have c34b1 : (a0_0 != 4) = true := bne_iff_ne.mpr c34
   by_cases c64 : a0_0 = 5
   ·rw [if_pos c64] at H
    exact zN_ H
   rw [if_neg c64] at H
   have c64b0 : (a0_0 == 5) = false := beq_eq_false_iff_ne.mpr c64
   have c64b1 : (a0_0 != 5) = true := bne_iff_ne.mpr c64
   by_cases c65 : a0_0 = 6
   ·rw [if_pos c65] at H
    exact zN_ H
   rw [if_neg c65] at H
   have c65b0 : (a0_0 == 6) = false := beq_eq_false_iff_ne.mpr c65
   have c65b1 : (a0_0 != 6) = true := bne_iff_ne.mpr c65
   by_cases c66 : a0_0 = 7
   ·rw [if_pos c66] at H
    exact zN_ H
   rw [if_neg c66] at H
   have c66b0 : (a0_0 == 7) = false := beq_eq_false_iff_ne.mpr c66
   have c66b1 : (a0_0 != 7) = true := bne_iff_ne.mpr c66
   by_cases c67 : a0_0 = 8
   ·rw [if_pos c67] at H
    have c67b0 : (a0_0 == 8) = true := beq_iff_eq.mpr c67
    have c67b1 : (a0_0 != 8) = false := bne_eq_false_iff_eq.mpr c67
    clear c67
    replace H := zO_ H
    obtain ⟨⟨t1235, t1238⟩, A680, H⟩ := H
    replace H : (some (t1235, t1238, 0)) = some (r1, r2, r3) := H
    have A68 := zA_ A680
    clear A680
    simp only [Option.some.injEq, Prod.mk.injEq] at H
    obtain ⟨rfl, rfl, rfl⟩ := H
    have hnb69 := NB1211_1208.out
    have hnc69 := NB1208_1211.out
    have hnb70 := NB1211_1209.out
    have hnc70 := NB1209_1211.out
    have hnb71 := NB1211_1210.out
    have hnc71 := NB1210_1211.out
    have hnb72 := NB1211_1212.out
    have hnc72 := NB1212_1211.out
    have hcz73_0 := zx_ (v := .slice A3_0 l3_0.length c3_0) BK1211 0
    have hcz73_1 := zx_ (v := .slice A3_1 l3_1.length c3_1) BK1211 1
    have hfz73_0 := blk_frozen BK1211.out 0
    have hfz73_1 := blk_frozen BK1211.out 1
    have hnb74 := NB1209_1208.out
    have hnc74 := NB1208_1209.out
    have hnb75 := NB1209_1210.out
    have hnc75 := NB1210_1209.out
    have hnb76 := NB1209_1212.out
    have hnc76 := NB1212_1209.out
    have hcz77_0 := zx_ (v := .slice A1_0 l1_0.length c1_0) BK1209 0
    have hcz77_1 := zx_ (v := .slice A1_1 l1_1.length c1_1) BK1209 1
    have hfz77_0 := blk_frozen BK1209.out 0
    have hfz77_1 := blk_frozen BK1209.out 1
    have hnb78 := NB1208_1210.out
    have hnc78 := NB1210_1208.out
    have hnb79 := NB1208_1212.out
    have hnc79 := NB1212_1208.out
    have hcz80_0 := zx_ (v := .int .i64 a0_0) BK1208 0
    have hcz80_1 := zx_ (v := .int .i64 a0_1) BK1208 1
    have hcz80_2 := zx_ (v := .int .i64 a0_2) BK1208 2
    have hcz80_3 := zx_ (v := .int .i64 a0_3) BK1208 3
    have hcz80_4 := zx_ (v := .slice A0_4 l0_4.length c0_4) BK1208 4
    have hcz80_5 := zx_ (v := .slice A0_5 l0_5.length c0_5) BK1208 5
    have hfz80_0 := blk_frozen BK1208.out 0
    have hfz80_1 := blk_frozen BK1208.out 1
    have hfz80_2 := blk_frozen BK1208.out 2
    have hfz80_3 := blk_frozen BK1208.out 3
    have hfz80_4 := blk_frozen BK1208.out 4
    have hfz80_5 := blk_frozen BK1208.out 5
    go_wp2_with (first | ((with_reducible refine gate_callee (f := 346) rfl ?_); refine zg_ (some 66) Tryz.func346 #[.agg #[.slice A3_0 l3_0.length c3_0, .slice A3_1 l3_1.length c3_1], .slice A1_0 l1_0.length c1_0, .int .i64 a0_3] (h := ?_); (with_reducible refine (back_spread.calls kj4 _ _ l3_0 _ _ l3_1 _ _ l1_0 a0_3 t1235 t1238 _ ?side1 ?side2 ?side3 ?side4 ?side5 ?side6 A68.out).mono ?_); (case side1 => exact zk_ (Kd.C_below HR3_0.out HB.out)); (case side2 => exact HC3_0.out); (case side3 => exact zk_ (Kd.C_below HR3_1.out HB.out)); (case side4 => exact HC3_1.out); (case side5 => exact zk_ (Kd.C_below HR1_0.out HB.out)); (case side6 => exact HC1_0.out); rintro e w81 ⟨v1236, v1239, rfl, ho0, ho1, hb⟩; refine ⟨_, rfl, ?_⟩; have HO1237 := zA_ (Kd.R_lower ho0 (below_size (zw5_ HB GE1208 GE1209 GE1210 GE1211 GE1212))); have HO1240 := zA_ (Kd.R_lower ho1 (below_size (zw5_ HB GE1208 GE1209 GE1210 GE1211 GE1212))); replace BK1208 := za_ BK1208 hb; replace BK1209 := za_ BK1209 hb; replace BK1210 := za_ BK1210 hb; replace BK1211 := za_ BK1211 hb; replace BK1212 := za_ BK1212 hb; replace HB := zA_ (below_step (zw5_ HB GE1208 GE1209 GE1210 GE1211 GE1212) hb); (try clear hb); (try clear ho0); (try clear ho1); obtain ⟨Ao82, co82, eo82⟩ := Kd.R_slice HO1237.out; subst eo82; have hnb83 := NB1212_1210.out; have hnc83 := NB1210_1212.out; have hcz84_0 := zx_ (v := .slice none 0 0) BK1212 0; have hcz84_1 := zx_ (v := .slice none 0 0) BK1212 1; have hfz84_0 := blk_frozen BK1212.out 0; have hfz84_1 := blk_frozen BK1212.out 1; obtain ⟨Ao85, co85, eo85⟩ := Kd.R_slice HO1240.out; subst eo85))
    refine bodyPost_ret (results_ct rfl _ _ gb1212 273 #[.slice Ao82 t1235.length co82, .slice Ao85 t1238.length co85] (0, 0) _ rfl (zo2_ BK1212) Tryz.underlying273 rfl (by kernel_rfl)) rfl ?_
    exact ⟨_, _, z0_, zr_ (Kd.R_mono (Kd.R_far (p := ⟨gb1212, 1, none⟩) (Kd.R_far (p := ⟨gb1212, 0, none⟩) (Kd.R_types HO1237.out BK1212.out (by decide)) (fun _ hk => hk.2) (.slice Ao82 t1235.length co82)) (fun _ hk => hk.2) (.slice Ao85 t1238.length co85)) (fun _ hk => trivial)), zr_ (Kd.R_mono (Kd.R_far (p := ⟨gb1212, 1, none⟩) (Kd.R_far (p := ⟨gb1212, 0, none⟩) (Kd.R_types HO1240.out BK1212.out (by decide)) (fun _ hk => hk.2) (.slice Ao82 t1235.length co82)) (fun _ hk => hk.2) (.slice Ao85 t1238.length co85)) (fun _ hk => trivial)), zw5_ HB GE1208 GE1209 GE1210 GE1211 GE1212⟩
   rw [if_neg c67] at H
   have c67b0 : (a0_0 == 8) = false := beq_eq_false_iff_ne.mpr c67
   have c67b1 : (a0_0 != 8) = true := bne_iff_ne.mpr c67
   by_cases c86 : a0_0 = 9
   ·rw [if_pos c86] at H
    have c86b0 : (a0_0 == 9) = true := beq_iff_eq.mpr c86
    have c86b1 : (a0_0 != 9) = false := bne_eq_false_iff_eq.mpr c86
    clear c86
    exact zN_ H
   rw [if_neg c86] at H
   have c86b0 : (a0_0 == 9) = false := beq_eq_false_iff_ne.mpr c86
   have c86b1 : (a0_0 != 9) = true := bne_iff_ne.mpr c86
   by_cases c87 : a0_0 = 10
   rotate_left
   ·rw [if_neg c87] at H
    have c87b0 : (a0_0 == 10) = false := beq_eq_false_iff_ne.mpr c87
    have c87b1 : (a0_0 != 10) = true := bne_iff_ne.mpr c87
    by_cases c100 : a0_0 = 11
    ·rw [if_pos c100] at H
     exact zN_ H
    rw [if_neg c100] at H
    have c100b0 : (a0_0 == 11) = false := beq_eq_false_iff_ne.mpr c100
    have c100b1 : (a0_0 != 11) = true := bne_iff_ne.mpr c100
    by_cases c101 : a0_0 = 12
    ·rw [if_pos c101] at H
     have c101b0 : (a0_0 == 12) = true := beq_iff_eq.mpr c101
     have c101b1 : (a0_0 != 12) = false := bne_eq_false_iff_eq.mpr c101
     clear c101
     exact zN_ H
    rw [if_neg c101] at H
    have c101b0 : (a0_0 == 12) = false := beq_eq_false_iff_ne.mpr c101
    have c101b1 : (a0_0 != 12) = true := bne_iff_ne.mpr c101
    by_cases c102 : a0_0 = 13
    ·rw [if_pos c102] at H
     exact zN_ H
    rw [if_neg c102] at H
    have c102b0 : (a0_0 == 13) = false := beq_eq_false_iff_ne.mpr c102
    have c102b1 : (a0_0 != 13) = true := bne_iff_ne.mpr c102
    by_cases c103 : a0_0 = 14
    ·rw [if_pos c103] at H
     exact zN_ H
    rw [if_neg c103] at H
    have c103b0 : (a0_0 == 14) = false := beq_eq_false_iff_ne.mpr c103
    have c103b1 : (a0_0 != 14) = true := bne_iff_ne.mpr c103
    simp only [Option.some.injEq, Prod.mk.injEq] at H
    obtain ⟨rfl, rfl, rfl⟩ := H
    have hnb104 := NB1212_1208.out
    have hnc104 := NB1208_1212.out
    have hnb105 := NB1212_1209.out
    have hnc105 := NB1209_1212.out
    have hnb106 := NB1212_1210.out
    have hnc106 := NB1210_1212.out
    have hnb107 := NB1212_1211.out
    have hnc107 := NB1211_1212.out
    have hcz108_0 := zx_ (v := .slice none 0 0) BK1212 0
    have hcz108_1 := zx_ (v := .slice none 0 0) BK1212 1
    have hfz108_0 := blk_frozen BK1212.out 0
    have hfz108_1 := blk_frozen BK1212.out 1
    go_wp2
    refine bodyPost_ret (results_ct rfl _ _ gb1212 273 #[.slice none 0 0, .slice none 0 0] (0, 0) _ rfl (zo2_ BK1212) Tryz.underlying273 rfl (by kernel_rfl)) rfl ?_
    exact ⟨_, _, z0_, z2_, z2_, zw5_ HB GE1208 GE1209 GE1210 GE1211 GE1212⟩
   rw [if_pos c87] at H
   have c87b0 : (a0_0 == 10) = true := beq_iff_eq.mpr c87
   have c87b1 : (a0_0 != 10) = false := bne_eq_false_iff_eq.mpr c87
   clear c87
   by_cases c88 : 0 < (l3_1.length : Int)
   rotate_left
   ·rw [if_neg c88] at H
    exact zN_ H
   rw [if_pos c88] at H
   have c88b0 : decide (0 < (l3_1.length : Int)) = true := decide_eq_true c88
   have c88b1 : decide (0 < l3_1.length) = true := decide_eq_true (by omega)
   clear c88
   replace H := zO_ H
   obtain ⟨⟨t1242, t1243⟩, A890, H⟩ := H
   (try dsimp only at H)
   have A89 := zA_ A890
   clear A890
   replace H := zO_ H
   obtain ⟨t1244, A900, H⟩ := H
   replace H : ((tens_New.f kj4 l1_0 t1244).bind fun bt1245 => (some (bt1245.1, bt1245.2.1, bt1245.2.2))) = some (r1, r2, r3) := H
   have A90 := zA_ A900
   clear A900
   replace H := zO_ H
   obtain ⟨⟨t1245, t1248, t1251⟩, A910, H⟩ := H
   replace H : (some (t1245, t1248, t1251)) = some (r1, r2, r3) := H
   have A91 := zA_ A910
   clear A910
   simp only [Option.some.injEq, Prod.mk.injEq] at H
   obtain ⟨rfl, rfl, rfl⟩ := H
   try go_wp2
   replace BK1208 := zA_ (blk_drew BK1208.out)
   replace BK1209 := zA_ (blk_drew BK1209.out)
   replace BK1210 := zA_ (blk_drew BK1210.out)
   replace BK1211 := zA_ (blk_drew BK1211.out)
   replace BK1212 := zA_ (blk_drew BK1212.out)
   replace HB := zA_ (below_drew1 HB.out)
   have p1241 : 0 ≤ (0 : Int) := (by omega)
   have q1241 : 0 < (l3_1.length : Int) := zD_
   obtain ⟨ad1241, e1241, hx1241_0⟩ := Kd.at_int HR3_1.out 0 p1241 q1241
   have hw1241_0 := hx1241_0
   (try rw [show ((0 : Int)).toNat = 0 from rfl] at hw1241_0)
   (try rw [show 0 * 1 = 0 from rfl] at hw1241_0)
   (try rw [Addr.add_zero'] at hw1241_0)
   cases e1241
   have qi1241 : (0 < l3_1.length) = True := eq_true (by omega)
   (try rw [show ((0 : Int)).toNat = 0 from rfl] at hx1241_0)
   (try rw [Addr.add_zero'] at hx1241_0)
   replace hx1241_0 := (HB.out.cell (World.block_lt_of_cell? w _ hx1241_0)).trans hx1241_0
   replace p1241 := eq_true p1241
   replace q1241 := eq_true q1241
   refine start_ (n := 16) (S := fun w' => w'.cell? ⟨gb1209, 0, none⟩ = some (.slice A1_0 l1_0.length c1_0) ∧ w'.cell? ⟨gb1209, 1, none⟩ = some (.slice A1_1 l1_1.length c1_1) ∧ w'.cell? ⟨gb1211, 0, none⟩ = some (.slice A3_0 l3_0.length c3_0) ∧ w'.cell? ⟨gb1211, 1, none⟩ = some (.slice (some ad1241) l3_1.length c3_1) ∧ w'.cell? ad1241 = some (.int .i64 (rd l3_1 0))) (ds := []) #[false, false, false, false, false, false, false, false, false, false, false, false, false, false, false, false] (by kernel_rfl) rfl rfl ⟨(blk_cell BK1209.out 0).trans rfl, (blk_cell BK1209.out 1).trans rfl, (blk_cell BK1211.out 0).trans rfl, (blk_cell BK1211.out 1).trans rfl, ((HB.out.cell (World.block_lt_of_cell? w _ hw1241_0)).trans hw1241_0)⟩ (fun hHeld => ?_); refine with_tabW back_forA.tab19 back_forA.bits19 (fun HT_ HW_ => ?_)
   generalize wc.drew = w92 at BK1208 BK1209 BK1210 BK1211 BK1212 HB hx1241_0 hHeld ⊢
   refine yp_ ?_ 0 80
   refine yp_ ?_ 2 82
   refine yp_ ?_ 7 87
   refine yt5_ ?_ 1 81
   refine yt5_ ?_ 3 83
   refine yp_ ?_ 4 84
   refine yt5_ ?_ 5 85
   refine yt5_ ?_ 8 88
   refine yp_ ?_ 9 89
   refine yo_ 6 (some 86) (fun K hK => ?_)
   refine yg_ Tryz.func348 #[.int .i64 (rd l3_1 0)] ?_
   with_reducible refine (wide_Of.calls (rd l3_1 0) t1242 t1243 _ A89.out).mono ?_
   rintro e w93 ⟨rfl, hb⟩
   refine ⟨_, rfl, ?_⟩
   replace BK1208 := za_ BK1208 hb
   replace BK1209 := za_ BK1209 hb
   replace BK1210 := za_ BK1210 hb
   replace BK1211 := za_ BK1211 hb
   replace BK1212 := za_ BK1212 hb
   replace HB := zA_ (below_step (zw5_ HB GE1208 GE1209 GE1210 GE1211 GE1212) hb)
   (try clear hb)
   (try clear hb2)
   (try clear hk)
   (try clear hi)
   refine hK.out _ _ ⟨(blk_cell BK1209.out 0).trans rfl, (blk_cell BK1209.out 1).trans rfl, (blk_cell BK1211.out 0).trans rfl, (blk_cell BK1211.out 1).trans rfl, ((HB.out.cell (World.block_lt_of_cell? w _ hw1241_0)).trans hw1241_0)⟩ (fun hHeld => ?_)
   clear hK K
   refine zq_ (some 86) (h := ?_)
   refine yo_ 10 (some 90) (fun K hK => ?_)
   refine yg_ Tryz.func347 #[.agg #[.int .i64 t1242, .int .u64 t1243], .int .i64 (l1_1.length : Int)] ?_
   with_reducible refine (wide_Over.calls kj4 t1242 t1243 (l1_1.length : Int) t1244 _ A90.out).mono ?_
   rintro e w94 ⟨rfl, hb⟩
   refine ⟨_, rfl, ?_⟩
   replace BK1208 := za_ BK1208 hb
   replace BK1209 := za_ BK1209 hb
   replace BK1210 := za_ BK1210 hb
   replace BK1211 := za_ BK1211 hb
   replace BK1212 := za_ BK1212 hb
   replace HB := zA_ (below_step (zw5_ HB GE1208 GE1209 GE1210 GE1211 GE1212) hb)
   (try clear hb)
   (try clear hb2)
   (try clear hk)
   (try clear hi)
   refine hK.out _ _ ⟨(blk_cell BK1209.out 0).trans rfl, (blk_cell BK1209.out 1).trans rfl, (blk_cell BK1211.out 0).trans rfl, (blk_cell BK1211.out 1).trans rfl, ((HB.out.cell (World.block_lt_of_cell? w _ hw1241_0)).trans hw1241_0)⟩ (fun hHeld => ?_)
   clear hK K
   refine zq_ (some 90) (h := ?_)
   refine yo_ 11 (some 91) (fun K hK => ?_)
   refine yg_ Tryz.func250 #[.slice A1_0 l1_0.length c1_0, .int .i64 t1244] ?_
   with_reducible refine (tens_New.calls kj4 _ _ l1_0 t1244 t1245 t1248 t1251 _ ?side1 ?side2 A91.out).mono ?_
   (case side1 => exact zk_ (Kd.C_below HR1_0.out HB.out))
   (case side2 => exact HC1_0.out)
   rintro e w95 ⟨v1246, v1249, rfl, ho0, ho1, hb⟩
   refine ⟨_, rfl, ?_⟩
   have HO1247 := zA_ (Kd.R_lower ho0 (below_size (zw5_ HB GE1208 GE1209 GE1210 GE1211 GE1212)))
   have HO1250 := zA_ (Kd.R_lower ho1 (below_size (zw5_ HB GE1208 GE1209 GE1210 GE1211 GE1212)))
   replace BK1208 := za_ BK1208 hb
   replace BK1209 := za_ BK1209 hb
   replace BK1210 := za_ BK1210 hb
   replace BK1211 := za_ BK1211 hb
   replace BK1212 := za_ BK1212 hb
   replace HB := zA_ (below_step (zw5_ HB GE1208 GE1209 GE1210 GE1211 GE1212) hb)
   (try clear hb)
   (try clear hb2)
   (try clear hk)
   (try clear hi)
   (try clear ho0)
   (try clear ho1)
   obtain ⟨Ao96, co96, eo96⟩ := Kd.R_slice HO1247.out
   (first | subst eo96 | (injection eo96 with f1_ f2_ f3_; have f4_ := f1_.symm; have f5_ := f3_.symm; clear f1_ f2_ f3_; subst f4_; subst f5_))
   obtain ⟨Ao98, co98, eo98⟩ := Kd.R_slice HO1250.out
   (first | subst eo98 | (injection eo98 with f1_ f2_ f3_; have f4_ := f1_.symm; have f5_ := f3_.symm; clear f1_ f2_ f3_; subst f4_; subst f5_))
   refine hK.out _ _ ⟨(blk_cell BK1209.out 0).trans rfl, (blk_cell BK1209.out 1).trans rfl, (blk_cell BK1211.out 0).trans rfl, (blk_cell BK1211.out 1).trans rfl, ((HB.out.cell (World.block_lt_of_cell? w _ hw1241_0)).trans hw1241_0)⟩ (fun hHeld => ?_)
   clear hK K
   refine zq_ (some 91) (h := ?_)
   refine yp_ ?_ 12 92
   refine yp_ ?_ 13 93
   refine yo_ 14 none (fun K hK => ?_)
   have hs97 := zx_ (v := .slice none 0 0) BK1212 0
   have hfs97 := blk_frozen BK1212.out 0
   have hns97_0 := NB1208_1212.out
   have hns97_1 := NB1209_1212.out
   have hns97_2 := NB1210_1212.out
   have hns97_3 := NB1211_1212.out
   have hms97_0 := NB1212_1208.out
   have hms97_1 := NB1212_1209.out
   have hms97_2 := NB1212_1210.out
   have hms97_3 := NB1212_1211.out
   have hs99 := zx_ (v := .slice none 0 0) BK1212 1
   have hfs99 := blk_frozen BK1212.out 1
   have hns99_0 := NB1208_1212.out
   have hns99_1 := NB1209_1212.out
   have hns99_2 := NB1210_1212.out
   have hns99_3 := NB1211_1212.out
   have hms99_0 := NB1212_1208.out
   have hms99_1 := NB1212_1209.out
   have hms99_2 := NB1212_1210.out
   have hms99_3 := NB1212_1211.out
   refine skip_ (w1 := ?_) (by rfl) rfl ?_ ?_
   rotate_left
   ·go_simp
    rfl
   refine hK.out _ _ ⟨((cell_far (p := ⟨gb1212, _, none⟩) NB1209_1212.out _).trans (((cell_far (p := ⟨gb1212, _, none⟩) NB1209_1212.out _).trans (hHeld.1)))), ((cell_far (p := ⟨gb1212, _, none⟩) NB1209_1212.out _).trans (((cell_far (p := ⟨gb1212, _, none⟩) NB1209_1212.out _).trans (hHeld.2.1)))), ((cell_far (p := ⟨gb1212, _, none⟩) NB1211_1212.out _).trans (((cell_far (p := ⟨gb1212, _, none⟩) NB1211_1212.out _).trans (hHeld.2.2.1)))), ((cell_far (p := ⟨gb1212, _, none⟩) NB1211_1212.out _).trans (((cell_far (p := ⟨gb1212, _, none⟩) NB1211_1212.out _).trans (hHeld.2.2.2.1)))), ((cell_far (p := ⟨gb1212, _, none⟩) (by first | exact Nat.ne_of_lt (Nat.lt_of_lt_of_le (by have := World.block_lt_of_cell? _ _ hw1241_0; first | rwa [add_block] at this | exact this) GW1212.out) | (rw [add_block]; exact Nat.ne_of_lt (Nat.lt_of_lt_of_le (by have := World.block_lt_of_cell? _ _ hw1241_0; first | rwa [add_block] at this | exact this) GW1212.out)) | (show (Addr.add _ _).block ≠ _; rw [add_block]; exact Nat.ne_of_lt (Nat.lt_of_lt_of_le (by have := World.block_lt_of_cell? _ _ hw1241_0; first | rwa [add_block] at this | exact this) GW1212.out)) | (dsimp only; exact Nat.ne_of_lt (Nat.lt_of_lt_of_le (by have := World.block_lt_of_cell? _ _ hw1241_0; first | rwa [add_block] at this | exact this) GW1212.out))) _).trans (((cell_far (p := ⟨gb1212, _, none⟩) (by first | exact Nat.ne_of_lt (Nat.lt_of_lt_of_le (by have := World.block_lt_of_cell? _ _ hw1241_0; first | rwa [add_block] at this | exact this) GW1212.out) | (rw [add_block]; exact Nat.ne_of_lt (Nat.lt_of_lt_of_le (by have := World.block_lt_of_cell? _ _ hw1241_0; first | rwa [add_block] at this | exact this) GW1212.out)) | (show (Addr.add _ _).block ≠ _; rw [add_block]; exact Nat.ne_of_lt (Nat.lt_of_lt_of_le (by have := World.block_lt_of_cell? _ _ hw1241_0; first | rwa [add_block] at this | exact this) GW1212.out)) | (dsimp only; exact Nat.ne_of_lt (Nat.lt_of_lt_of_le (by have := World.block_lt_of_cell? _ _ hw1241_0; first | rwa [add_block] at this | exact this) GW1212.out))) _).trans (hHeld.2.2.2.2))))⟩ (fun hHeld => ?_)
   clear hK K
   refine yp_ ?_ 15 9
   refine done_ (done_of HT_.out (by kernel_rfl)) ?_
   try go_wp2
   refine bodyPost_ret (results_ct rfl _ _ gb1212 273 #[.slice Ao96 t1245.length co96, .slice Ao98 t1248.length co98] (0, 0) _ rfl (zo2_ BK1212) Tryz.underlying273 rfl (by kernel_rfl)) rfl ?_
   exact ⟨_, _, z0_, zr_ (Kd.R_mono (Kd.R_far (p := ⟨gb1212, 1, none⟩) (Kd.R_far (p := ⟨gb1212, 0, none⟩) (Kd.R_types HO1247.out BK1212.out (by decide)) (fun _ hk => hk.2) (.slice Ao96 t1245.length co96)) (fun _ hk => hk.2) (.slice Ao98 t1248.length co98)) (fun _ hk => trivial)), zr_ (Kd.R_mono (Kd.R_far (p := ⟨gb1212, 1, none⟩) (Kd.R_far (p := ⟨gb1212, 0, none⟩) (Kd.R_types HO1250.out BK1212.out (by decide)) (fun _ hk => hk.2) (.slice Ao96 t1245.length co96)) (fun _ hk => hk.2) (.slice Ao98 t1248.length co98)) (fun _ hk => trivial)), zw5_ HB GE1208 GE1209 GE1210 GE1211 GE1212⟩
end Go.Proofs.YtmddclifcgcpcaaGreatDoor.PTopNames
