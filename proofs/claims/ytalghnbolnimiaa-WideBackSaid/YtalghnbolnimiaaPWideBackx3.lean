/- The functions that the law WideBack reaches, as Lean functions, and that each call of the Go function does what its Lean function says, wherever that one answers. Written by a program of mine over the print of the kit; Lean checks it. -/
import Derived.Test.YtalghnbolnimiaaPWideBackx0
namespace Go.Proofs.Ytalghnbolnimiaa.PWideBack
open Go.RowKit Go.Proofs.YtalghnbolnimiaaW.PrintWords Go.Proofs.YtalghnbolnimiaaW.PrintLast Go.Proofs.YtalghnbolnimiaaW.PrintMore
attribute [local go_sem] max2_int min2_int max_two min_two max_three min_three max_four min_four   -- for this text's walks alone
set_option linter.unusedVariables false
set_option linter.unusedSimpArgs false

/-! ### wide_down: function 45 -/
def wide_down.f (a0_0 : Int) (a0_1 : Int) (a1 : Int) : Option (Int × Int × Int × Int) := if a1 ≥ 64 then (if 0 ≤ (wrap64 (a1 - 64)) then (if 0 ≤ (wrap64 (64 - (wrap64 (a1 - 64)))) then (some (a0_0 / 9223372036854775808, IntKind.u64.wrap (shr .i64 a0_0 (wrap64 (a1 - 64))), Go.bits .or .u64 (shl .u64 (IntKind.u64.wrap (a0_0)) (wrap64 (64 - (wrap64 (a1 - 64))))) (shr .u64 a0_1 (wrap64 (a1 - 64))), shl .u64 a0_1 (wrap64 (64 - (wrap64 (a1 - 64)))))) else (none)) else (none)) else (if 0 ≤ a1 then (if 0 ≤ (wrap64 (64 - a1)) then (some (shr .i64 a0_0 a1, Go.bits .or .u64 (shl .u64 (IntKind.u64.wrap (a0_0)) (wrap64 (64 - a1))) (shr .u64 a0_1 a1), shl .u64 a0_1 (wrap64 (64 - a1)), 0)) else (none)) else (none))
def wide_down.T4 : Bool × List (List Nat × List Nat) := (true, [([], []), ([0], [0]), ([1], [1]), ([], []), ([3], [3]), ([], []), ([4, 5], [4, 5]), ([6], [6]), ([2, 7], [2, 7]), ([], []), ([9, 8, 0, 1, 2, 3, 4, 5, 6, 7, 8, 9], [8, 9])])
def wide_down.B4 : List Nat := [0, 1, 3, 0, 8, 0, 56, 120, 255, 0, 1023]
theorem wide_down.tab4 : rtab .any (opsOf Try.f45 4) = wide_down.T4 := by kernel_rfl
theorem wide_down.bits4 : waitsOk wide_down.T4.2 wide_down.B4 = true := by kernel_rfl
def wide_down.T5 : Bool × List (List Nat × List Nat) := (true, [([], []), ([], []), ([], []), ([2], [2]), ([1, 3], [1, 3]), ([], []), ([], []), ([5, 6], [5, 6]), ([4, 7], [4, 7]), ([], []), ([], []), ([10], [10]), ([9, 11], [9, 11]), ([0, 0], [0]), ([8, 13, 0, 1, 2, 3, 4, 5, 6, 7, 8, 13], [8]), ([12, 14, 0, 1, 2, 3, 4, 5, 6, 7, 8, 9, 10, 11, 12, 13, 14], [12])])
def wide_down.B5 : List Nat := [0, 0, 0, 4, 14, 0, 0, 96, 254, 0, 0, 1024, 3584, 1, 8703, 32767]
theorem wide_down.tab5 : rtab .any (opsOf Try.f45 5) = wide_down.T5 := by kernel_rfl
theorem wide_down.bits5 : waitsOk wide_down.T5.2 wide_down.B5 = true := by kernel_rfl
def wide_down.T6 : Bool × List (List Nat × List Nat) := (true, [([], []), ([0], [0]), ([], []), ([1, 2], [1, 2]), ([], []), ([], []), ([5], [5]), ([4, 6], [4, 6]), ([], []), ([], []), ([8, 9], [8, 9]), ([7, 10], [7, 10]), ([3, 11], [3, 11]), ([], []), ([], []), ([14], [14]), ([13, 15], [13, 15]), ([12, 0, 1, 2, 3, 4, 5, 6, 7, 8, 9, 10, 11, 12], [12]), ([16, 17, 0, 1, 2, 3, 4, 5, 6, 7, 8, 9, 10, 11, 12, 13, 14, 15, 16, 17], [16]), ([18, 0, 1, 2, 3, 4, 5, 6, 7, 8, 9, 10, 11, 12, 13, 14, 15, 16, 17, 18], [])])
def wide_down.B6 : List Nat := [0, 1, 0, 7, 0, 0, 32, 112, 0, 0, 768, 2032, 4095, 0, 0, 16384, 57344, 8191, 262143, 524287]
theorem wide_down.tab6 : rtab .any (opsOf Try.f45 6) = wide_down.T6 := by kernel_rfl
theorem wide_down.bits6 : waitsOk wide_down.T6.2 wide_down.B6 = true := by kernel_rfl
set_option maxHeartbeats 8000000 in
set_option maxRecDepth 100000 in
theorem wide_down.calls (a0_0 : Int) (a0_1 : Int) (a1 : Int) (r1 : Int) (r2 : Int) (r3 : Int) (r4 : Int) (w : World) (h : wide_down.f a0_0 a0_1 a1 = some (r1, r2, r3, r4)) :
  Calls Try.prog 45 #[.agg #[.int .i64 a0_0, .int .u64 a0_1], .int .i64 a1] w fun e w' => e = .returned (.tuple #[.agg #[.int .i64 r1, .int .u64 r2], .int .u64 r3, .int .u64 r4]) ∧ Below w.heap.size w w' := by
 have hu25 := Try.underlying25
 have HB := Aside0.mk (Below.refl w.heap.size w)
 have H : (if a1 ≥ 64 then (if 0 ≤ (wrap64 (a1 - 64)) then (if 0 ≤ (wrap64 (64 - (wrap64 (a1 - 64)))) then (some (a0_0 / 9223372036854775808, IntKind.u64.wrap (shr .i64 a0_0 (wrap64 (a1 - 64))), Go.bits .or .u64 (shl .u64 (IntKind.u64.wrap (a0_0)) (wrap64 (64 - (wrap64 (a1 - 64))))) (shr .u64 a0_1 (wrap64 (a1 - 64))), shl .u64 a0_1 (wrap64 (64 - (wrap64 (a1 - 64)))))) else (none)) else (none)) else (if 0 ≤ a1 then (if 0 ≤ (wrap64 (64 - a1)) then (some (shr .i64 a0_0 a1, Go.bits .or .u64 (shl .u64 (IntKind.u64.wrap (a0_0)) (wrap64 (64 - a1))) (shr .u64 a0_1 a1), shl .u64 a0_1 (wrap64 (64 - a1)), 0)) else (none)) else (none))) = some (r1, r2, r3, r4) := h
 clear h
 by_cases c3 : a1 ≥ 64
 rotate_left
 ·rw [if_neg c3] at H
  have c3b0 : decide (64 ≤ a1) = false := decide_eq_false c3
  clear c3
  by_cases c25 : 0 ≤ a1
  rotate_left
  ·rw [if_neg c25] at H
   exact absurd H (by simp)
  rw [if_pos c25] at H
  have c25b0 := eq_true c25
  have c25b1 : decide (0 ≤ a1) = true := decide_eq_true c25
  clear c25
  obtain ⟨ji26, hji26⟩ : ∃ j_ : Int, (shr .i64 a0_0 a1) = j_ := ⟨_, rfl⟩
  replace H : (if 0 ≤ (wrap64 (64 - a1)) then (some (ji26, Go.bits .or .u64 (shl .u64 (IntKind.u64.wrap (a0_0)) (wrap64 (64 - a1))) (shr .u64 a0_1 a1), shl .u64 a0_1 (wrap64 (64 - a1)), 0)) else (none)) = some (r1, r2, r3, r4) := by first | (rw [hji26] at H; exact H) | (simp only [hji26] at H ⊢; exact H)
  have hji26_ : (a0_0 / 2 ^ min a1.toNat 64) = ji26 := hji26
  have hji26z : a1 ≤ 64 → (a0_0 / 2 ^ a1.toNat) = ji26 := shr_small hji26
  obtain ⟨ji27, hji27⟩ : ∃ j_ : Int, (wrap64 (64 - a1)) = j_ := ⟨_, rfl⟩
  replace H : (if 0 ≤ (ji27) then (some (ji26, Go.bits .or .u64 (shl .u64 (IntKind.u64.wrap (a0_0)) (ji27)) (shr .u64 a0_1 a1), shl .u64 a0_1 (ji27), 0)) else (none)) = some (r1, r2, r3, r4) := by first | (rw [hji27] at H; exact H) | (simp only [hji27] at H ⊢; exact H)
  have hji27w : (IntKind.i64.wrap (64 - a1)) = ji27 := (i64_w _).trans hji27
  by_cases c28 : 0 ≤ (ji27)
  rotate_left
  ·rw [if_neg c28] at H
   exact absurd H (by simp)
  rw [if_pos c28] at H
  have c28b0 := eq_true c28
  have c28b1 : decide (0 ≤ (ji27)) = true := decide_eq_true c28
  clear c28
  obtain ⟨ji29, hji29⟩ : ∃ j_ : Int, (shl .u64 (IntKind.u64.wrap (a0_0)) (ji27)) = j_ := ⟨_, rfl⟩
  replace H : (some (ji26, Go.bits .or .u64 (ji29) (shr .u64 a0_1 a1), shl .u64 a0_1 (ji27), 0)) = some (r1, r2, r3, r4) := by first | (rw [hji29] at H; exact H) | (simp only [hji29] at H ⊢; exact H)
  have hji29_ : (IntKind.u64.wrap ((IntKind.u64.wrap (a0_0)) * 2 ^ min (ji27).toNat 64)) = ji29 := hji29
  have hji29z : (ji27) ≤ 64 → (IntKind.u64.wrap ((IntKind.u64.wrap (a0_0)) * 2 ^ (ji27).toNat)) = ji29 := shl_small hji29
  have c30b0 := eq_true (of_decide_eq_true (by first | (with_reducible assumption) | assumption) : 0 ≤ a1)
  obtain ⟨ji31, hji31⟩ : ∃ j_ : Int, (shr .u64 a0_1 a1) = j_ := ⟨_, rfl⟩
  replace H : (some (ji26, Go.bits .or .u64 (ji29) (ji31), shl .u64 a0_1 (ji27), 0)) = some (r1, r2, r3, r4) := by first | (rw [hji31] at H; exact H) | (simp only [hji31] at H ⊢; exact H)
  have hji31_ : (a0_1 / 2 ^ min a1.toNat 64) = ji31 := hji31
  have hji31z : a1 ≤ 64 → (a0_1 / 2 ^ a1.toNat) = ji31 := shr_small hji31
  have c32b0 := eq_true (of_decide_eq_true (by first | (with_reducible assumption) | assumption) : 0 ≤ (ji27))
  obtain ⟨ji33, hji33⟩ : ∃ j_ : Int, (shl .u64 a0_1 (ji27)) = j_ := ⟨_, rfl⟩
  replace H : (some (ji26, Go.bits .or .u64 (ji29) (ji31), ji33, 0)) = some (r1, r2, r3, r4) := by first | (rw [hji33] at H; exact H) | (simp only [hji33] at H ⊢; exact H)
  have hji33_ : (IntKind.u64.wrap (a0_1 * 2 ^ min (ji27).toNat 64)) = ji33 := hji33
  have hji33z : (ji27) ≤ 64 → (IntKind.u64.wrap (a0_1 * 2 ^ (ji27).toNat)) = ji33 := shl_small hji33
  simp only [Option.some.injEq, Prod.mk.injEq] at H
  obtain ⟨rfl, rfl, rfl, rfl⟩ := H
  go_enter Try.func45, Try.ntmps45
  try go_wp2_with (first | ((with_reducible refine gate_dst (N := 2) rfl ?_); refine box_event ?hg (N := 2) ?hd (cs := #[.int .i64 a0_0, .int .u64 a0_1]) (t := 25) ?hr ?_; (case hd => rfl); (case hg => rfl); (case hr => first | (go_simp; done) | (go_simp; rfl)); intro gb128 hg w34 hbox hb; have BK128 := Aside0.mk (hbox); have GW128 := Aside0.mk (zs_ hg (zw0_ HB)); have GE128 := Aside0.mk (zs_ hg (zw0_ HB)); replace HB := Aside0.mk (below_step (zw0_ HB) hb); clear hb hbox hg) | ((with_reducible refine gate_dst (N := 4) rfl ?_); refine box_event ?hg (N := 4) ?hd (cs := #[.int .i64 0, .int .u64 0]) (t := 25) ?hr ?_; (case hd => rfl); (case hg => rfl); (case hr => first | (go_simp; done) | (go_simp; rfl)); intro gb129 hg w35 hbox hb; have BK129 := Aside0.mk (hbox); have GW129 := Aside0.mk (zs_ hg (zw1_ HB GE128)); have GE129 := Aside0.mk (zs_ hg (zw1_ HB GE128)); replace HB := Aside0.mk (below_step (zw1_ HB GE128) hb); have NB128_129 := Aside0.mk (zn_ hg BK128); have NB129_128 := Aside0.mk (zm_ hg BK128); replace BK128 := za_ BK128 hb; clear hb hbox hg))
  replace BK128 := Aside0.mk (blk_drew BK128.out)
  replace BK129 := Aside0.mk (blk_drew BK129.out)
  replace HB := Aside0.mk (below_drew1 HB.out)
  refine start_ (n := 7) (S := fun w' => w'.cell? ⟨gb128, 0, none⟩ = some (.int .i64 a0_0) ∧ w'.cell? ⟨gb128, 1, none⟩ = some (.int .u64 a0_1)) (ds := []) #[false, false, false, false, false, false, false] (by kernel_rfl) rfl rfl ⟨(blk_cell BK128.out 0).trans rfl, (blk_cell BK128.out 1).trans rfl⟩ (fun hHeld => ?_)
  generalize w35.drew = w36 at BK128 BK129 HB hHeld ⊢
  refine pure_ (i := 0) (N := some 11) (v := ?_) (a' := ?_) #[true, false, false, false, false, false, false] rfl rfl (by kernel_rfl) (fun _ _ _ h => h) (Or.inl ⟨by rfl, ?_⟩) ?_ ?_
  rotate_left
  ·intro w'
   go_simp
   with_reducible rfl
  rotate_left
  ·simp only [Act.put, List.setIfInBounds_toArray, List.set_cons_zero, List.set_cons_succ, i64_w, i32_w]
   rfl
  refine pure_ (i := 3) (N := some 14) (v := ?_) (a' := ?_) #[true, false, false, true, false, false, false] rfl rfl (by kernel_rfl) (fun _ _ _ h => h) (Or.inl ⟨by rfl, ?_⟩) ?_ ?_
  rotate_left
  ·intro w'
   go_simp
   with_reducible rfl
  rotate_left
  ·simp only [Act.put, List.setIfInBounds_toArray, List.set_cons_zero, List.set_cons_succ, i64_w, i32_w]
   rfl
  refine take_ (i := 1) (N := some 12) (v := ?_) (a' := ?_) #[true, true, false, true, false, false, false] rfl rfl (by kernel_rfl) (fun _ _ _ h => h) (Or.inl ⟨by rfl, ?_⟩) hHeld ?_ ?_
  rotate_left
  ·rintro w' ⟨s0, s1⟩
   go_simp
   with_reducible rfl
  rotate_left
  ·simp only [Act.put, List.setIfInBounds_toArray, List.set_cons_zero, List.set_cons_succ, i64_w, i32_w]
   rfl
  refine pure_ (i := 2) (N := some 13) (v := ?_) (a' := ?_) #[true, true, true, true, false, false, false] rfl rfl (by kernel_rfl) (fun _ _ _ h => h) (Or.inl ⟨by rfl, ?_⟩) ?_ ?_
  rotate_left
  ·intro w'
   go_simp
   with_reducible rfl
  rotate_left
  ·simp only [Act.put, List.setIfInBounds_toArray, List.set_cons_zero, List.set_cons_succ, i64_w, i32_w]
   rfl
  refine pure_ (i := 5) (N := some 7) (v := ?_) (a' := ?_) #[true, true, true, true, false, true, false] rfl rfl (by kernel_rfl) (fun _ _ _ h => h) (Or.inl ⟨by rfl, ?_⟩) ?_ ?_
  rotate_left
  ·intro w'
   go_simp
   with_reducible rfl
  rotate_left
  ·simp only [Act.put, List.setIfInBounds_toArray, List.set_cons_zero, List.set_cons_succ, i64_w, i32_w]
   rfl
  refine take_ (i := 4) (N := some 15) (v := ?_) (a' := ?_) #[true, true, true, true, true, true, false] rfl rfl (by kernel_rfl) (fun _ _ _ h => h) (Or.inl ⟨by rfl, ?_⟩) hHeld ?_ ?_
  rotate_left
  ·rintro w' ⟨s0, s1⟩
   go_simp
   with_reducible rfl
  rotate_left
  ·simp only [Act.put, List.setIfInBounds_toArray, List.set_cons_zero, List.set_cons_succ, i64_w, i32_w]
   rfl
  refine pure_ (i := 6) (N := some 8) (v := ?_) (a' := ?_) #[true, true, true, true, true, true, true] rfl rfl (by kernel_rfl) (fun _ _ _ h => h) (Or.inl ⟨by rfl, ?_⟩) ?_ ?_
  rotate_left
  ·intro w'
   go_simp
   with_reducible rfl
  rotate_left
  ·simp only [Act.put, List.setIfInBounds_toArray, List.set_cons_zero, List.set_cons_succ, i64_w, i32_w]
   rfl
  refine done_ (by kernel_rfl) ?_
  try go_wp2
  replace BK128 := Aside0.mk (blk_drew BK128.out)
  replace BK129 := Aside0.mk (blk_drew BK129.out)
  replace HB := Aside0.mk (below_drew1 HB.out)
  refine start_ (n := 20) (S := fun w' => w'.cell? ⟨gb128, 0, none⟩ = some (.int .i64 a0_0) ∧ w'.cell? ⟨gb128, 1, none⟩ = some (.int .u64 a0_1)) (ds := []) #[false, false, false, false, false, false, false, false, false, false, false, false, false, false, false, false, false, false, false, false] (by kernel_rfl) rfl rfl ⟨(blk_cell BK128.out 0).trans rfl, (blk_cell BK128.out 1).trans rfl⟩ (fun hHeld => ?_); refine with_tabW wide_down.tab6 wide_down.bits6 (fun HT_ HW_ => ?_)
  generalize w36.drew = w37 at BK128 BK129 HB hHeld ⊢
  refine yp_ ?_ 0 42
  refine yp_ ?_ 2 44
  refine yp_ ?_ 4 46
  refine yp_ ?_ 5 47
  refine yp_ ?_ 6 48
  refine yp_ ?_ 7 49
  refine yp_ ?_ 8 50
  refine yp_ ?_ 9 51
  refine yp_ ?_ 10 52
  refine yp_ ?_ 11 53
  refine yp_ ?_ 13 55
  refine yp_ ?_ 14 56
  refine yp_ ?_ 15 57
  refine yp_ ?_ 16 58
  refine yt2_ ?_ 1 43
  refine yp_ ?_ 3 45
  refine yp_ ?_ 12 54
  refine yo_ 17 none (fun K hK => ?_)
  have hs38 := zx_ (v := .int .i64 0) BK129 0
  have hfs38 := blk_frozen BK129.out 0
  have hns38_0 := NB128_129.out
  have hms38_0 := NB129_128.out
  have hs39 := zx_ (v := .int .u64 0) BK129 1
  have hfs39 := blk_frozen BK129.out 1
  have hns39_0 := NB128_129.out
  have hms39_0 := NB129_128.out
  refine skip_ (w1 := ?_) (by rfl) rfl ?_ ?_
  rotate_left
  ·go_simp
   rfl
  refine hK.out _ _ ⟨((cell_far (p := ⟨gb129, _, none⟩) NB128_129.out _).trans (((cell_far (p := ⟨gb129, _, none⟩) NB128_129.out _).trans (hHeld.1)))), ((cell_far (p := ⟨gb129, _, none⟩) NB128_129.out _).trans (((cell_far (p := ⟨gb129, _, none⟩) NB128_129.out _).trans (hHeld.2))))⟩ (fun hHeld => ?_)
  clear hK K
  refine yp_ ?_ 18 5
  refine yp_ ?_ 19 6
  refine done_ (done_of HT_.out (by kernel_rfl)) ?_
  try go_wp2
  refine bodyPost_ret (results_ctt rfl _ _ gb129 25 #[.int .i64 ji26, .int .u64 (Go.bits .or .u64 (ji29) (ji31))] (0, 0) _ rfl (zo2_ BK129) Try.underlying25 rfl (by kernel_rfl)) rfl ?_
  exact ⟨by first | rfl | (simp [errW_none, errW_some] <;> rfl) | (simp only [← hji26, ← hji27, ← hji29, ← hji31, ← hji33]; first | rfl | (simp [errW_none, errW_some] <;> rfl)) | (simp [*, errW_none, errW_some] <;> rfl), zw2_ HB GE128 GE129⟩
 rw [if_pos c3] at H
 have c3b0 : decide (64 ≤ a1) = true := decide_eq_true c3
 clear c3
 obtain ⟨ji4, hji4⟩ : ∃ j_ : Int, (wrap64 (a1 - 64)) = j_ := ⟨_, rfl⟩
 replace H : (if 0 ≤ (ji4) then (if 0 ≤ (wrap64 (64 - (ji4))) then (some (a0_0 / 9223372036854775808, IntKind.u64.wrap (shr .i64 a0_0 (ji4)), Go.bits .or .u64 (shl .u64 (IntKind.u64.wrap (a0_0)) (wrap64 (64 - (ji4)))) (shr .u64 a0_1 (ji4)), shl .u64 a0_1 (wrap64 (64 - (ji4))))) else (none)) else (none)) = some (r1, r2, r3, r4) := by first | (rw [hji4] at H; exact H) | (simp only [hji4] at H ⊢; exact H)
 have hji4w : (IntKind.i64.wrap (a1 - 64)) = ji4 := (i64_w _).trans hji4
 by_cases c5 : 0 ≤ (ji4)
 rotate_left
 ·rw [if_neg c5] at H
  exact absurd H (by simp)
 rw [if_pos c5] at H
 have c5b0 := eq_true c5
 have c5b1 : decide (0 ≤ (ji4)) = true := decide_eq_true c5
 clear c5
 obtain ⟨ji6, hji6⟩ : ∃ j_ : Int, (shr .i64 a0_0 (ji4)) = j_ := ⟨_, rfl⟩
 replace H : (if 0 ≤ (wrap64 (64 - (ji4))) then (some (a0_0 / 9223372036854775808, IntKind.u64.wrap (ji6), Go.bits .or .u64 (shl .u64 (IntKind.u64.wrap (a0_0)) (wrap64 (64 - (ji4)))) (shr .u64 a0_1 (ji4)), shl .u64 a0_1 (wrap64 (64 - (ji4))))) else (none)) = some (r1, r2, r3, r4) := by first | (rw [hji6] at H; exact H) | (simp only [hji6] at H ⊢; exact H)
 have hji6_ : (a0_0 / 2 ^ min (ji4).toNat 64) = ji6 := hji6
 have hji6z : (ji4) ≤ 64 → (a0_0 / 2 ^ (ji4).toNat) = ji6 := shr_small hji6
 obtain ⟨ji7, hji7⟩ : ∃ j_ : Int, (wrap64 (64 - (ji4))) = j_ := ⟨_, rfl⟩
 replace H : (if 0 ≤ (ji7) then (some (a0_0 / 9223372036854775808, IntKind.u64.wrap (ji6), Go.bits .or .u64 (shl .u64 (IntKind.u64.wrap (a0_0)) (ji7)) (shr .u64 a0_1 (ji4)), shl .u64 a0_1 (ji7))) else (none)) = some (r1, r2, r3, r4) := by first | (rw [hji7] at H; exact H) | (simp only [hji7] at H ⊢; exact H)
 have hji7w : (IntKind.i64.wrap (64 - (ji4))) = ji7 := (i64_w _).trans hji7
 by_cases c8 : 0 ≤ (ji7)
 rotate_left
 ·rw [if_neg c8] at H
  exact absurd H (by simp)
 rw [if_pos c8] at H
 have c8b0 := eq_true c8
 have c8b1 : decide (0 ≤ (ji7)) = true := decide_eq_true c8
 clear c8
 obtain ⟨ji9, hji9⟩ : ∃ j_ : Int, (shl .u64 (IntKind.u64.wrap (a0_0)) (ji7)) = j_ := ⟨_, rfl⟩
 replace H : (some (a0_0 / 9223372036854775808, IntKind.u64.wrap (ji6), Go.bits .or .u64 (ji9) (shr .u64 a0_1 (ji4)), shl .u64 a0_1 (ji7))) = some (r1, r2, r3, r4) := by first | (rw [hji9] at H; exact H) | (simp only [hji9] at H ⊢; exact H)
 have hji9_ : (IntKind.u64.wrap ((IntKind.u64.wrap (a0_0)) * 2 ^ min (ji7).toNat 64)) = ji9 := hji9
 have hji9z : (ji7) ≤ 64 → (IntKind.u64.wrap ((IntKind.u64.wrap (a0_0)) * 2 ^ (ji7).toNat)) = ji9 := shl_small hji9
 have c10b0 := eq_true (of_decide_eq_true (by first | (with_reducible assumption) | assumption) : 0 ≤ (ji4))
 obtain ⟨ji11, hji11⟩ : ∃ j_ : Int, (shr .u64 a0_1 (ji4)) = j_ := ⟨_, rfl⟩
 replace H : (some (a0_0 / 9223372036854775808, IntKind.u64.wrap (ji6), Go.bits .or .u64 (ji9) (ji11), shl .u64 a0_1 (ji7))) = some (r1, r2, r3, r4) := by first | (rw [hji11] at H; exact H) | (simp only [hji11] at H ⊢; exact H)
 have hji11_ : (a0_1 / 2 ^ min (ji4).toNat 64) = ji11 := hji11
 have hji11z : (ji4) ≤ 64 → (a0_1 / 2 ^ (ji4).toNat) = ji11 := shr_small hji11
 have c12b0 := eq_true (of_decide_eq_true (by first | (with_reducible assumption) | assumption) : 0 ≤ (ji7))
 obtain ⟨ji13, hji13⟩ : ∃ j_ : Int, (shl .u64 a0_1 (ji7)) = j_ := ⟨_, rfl⟩
 replace H : (some (a0_0 / 9223372036854775808, IntKind.u64.wrap (ji6), Go.bits .or .u64 (ji9) (ji11), ji13)) = some (r1, r2, r3, r4) := by first | (rw [hji13] at H; exact H) | (simp only [hji13] at H ⊢; exact H)
 have hji13_ : (IntKind.u64.wrap (a0_1 * 2 ^ min (ji7).toNat 64)) = ji13 := hji13
 have hji13z : (ji7) ≤ 64 → (IntKind.u64.wrap (a0_1 * 2 ^ (ji7).toNat)) = ji13 := shl_small hji13
 simp only [Option.some.injEq, Prod.mk.injEq] at H
 obtain ⟨rfl, rfl, rfl, rfl⟩ := H
 go_enter Try.func45, Try.ntmps45
 try go_wp2_with (first | ((with_reducible refine gate_dst (N := 2) rfl ?_); refine box_event ?hg (N := 2) ?hd (cs := #[.int .i64 a0_0, .int .u64 a0_1]) (t := 25) ?hr ?_; (case hd => rfl); (case hg => rfl); (case hr => first | (go_simp; done) | (go_simp; rfl)); intro gb128 hg w14 hbox hb; have BK128 := Aside0.mk (hbox); have GW128 := Aside0.mk (zs_ hg (zw0_ HB)); have GE128 := Aside0.mk (zs_ hg (zw0_ HB)); replace HB := Aside0.mk (below_step (zw0_ HB) hb); clear hb hbox hg) | ((with_reducible refine gate_dst (N := 4) rfl ?_); refine box_event ?hg (N := 4) ?hd (cs := #[.int .i64 0, .int .u64 0]) (t := 25) ?hr ?_; (case hd => rfl); (case hg => rfl); (case hr => first | (go_simp; done) | (go_simp; rfl)); intro gb129 hg w15 hbox hb; have BK129 := Aside0.mk (hbox); have GW129 := Aside0.mk (zs_ hg (zw1_ HB GE128)); have GE129 := Aside0.mk (zs_ hg (zw1_ HB GE128)); replace HB := Aside0.mk (below_step (zw1_ HB GE128) hb); have NB128_129 := Aside0.mk (zn_ hg BK128); have NB129_128 := Aside0.mk (zm_ hg BK128); replace BK128 := za_ BK128 hb; clear hb hbox hg))
 replace BK128 := Aside0.mk (blk_drew BK128.out)
 replace BK129 := Aside0.mk (blk_drew BK129.out)
 replace HB := Aside0.mk (below_drew1 HB.out)
 refine start_ (n := 7) (S := fun w' => w'.cell? ⟨gb128, 0, none⟩ = some (.int .i64 a0_0) ∧ w'.cell? ⟨gb128, 1, none⟩ = some (.int .u64 a0_1)) (ds := []) #[false, false, false, false, false, false, false] (by kernel_rfl) rfl rfl ⟨(blk_cell BK128.out 0).trans rfl, (blk_cell BK128.out 1).trans rfl⟩ (fun hHeld => ?_)
 generalize w15.drew = w16 at BK128 BK129 HB hHeld ⊢
 refine pure_ (i := 0) (N := some 11) (v := ?_) (a' := ?_) #[true, false, false, false, false, false, false] rfl rfl (by kernel_rfl) (fun _ _ _ h => h) (Or.inl ⟨by rfl, ?_⟩) ?_ ?_
 rotate_left
 ·intro w'
  go_simp
  with_reducible rfl
 rotate_left
 ·simp only [Act.put, List.setIfInBounds_toArray, List.set_cons_zero, List.set_cons_succ, i64_w, i32_w]
  rfl
 refine pure_ (i := 3) (N := some 14) (v := ?_) (a' := ?_) #[true, false, false, true, false, false, false] rfl rfl (by kernel_rfl) (fun _ _ _ h => h) (Or.inl ⟨by rfl, ?_⟩) ?_ ?_
 rotate_left
 ·intro w'
  go_simp
  with_reducible rfl
 rotate_left
 ·simp only [Act.put, List.setIfInBounds_toArray, List.set_cons_zero, List.set_cons_succ, i64_w, i32_w]
  rfl
 refine take_ (i := 1) (N := some 12) (v := ?_) (a' := ?_) #[true, true, false, true, false, false, false] rfl rfl (by kernel_rfl) (fun _ _ _ h => h) (Or.inl ⟨by rfl, ?_⟩) hHeld ?_ ?_
 rotate_left
 ·rintro w' ⟨s0, s1⟩
  go_simp
  with_reducible rfl
 rotate_left
 ·simp only [Act.put, List.setIfInBounds_toArray, List.set_cons_zero, List.set_cons_succ, i64_w, i32_w]
  rfl
 refine pure_ (i := 2) (N := some 13) (v := ?_) (a' := ?_) #[true, true, true, true, false, false, false] rfl rfl (by kernel_rfl) (fun _ _ _ h => h) (Or.inl ⟨by rfl, ?_⟩) ?_ ?_
 rotate_left
 ·intro w'
  go_simp
  with_reducible rfl
 rotate_left
 ·simp only [Act.put, List.setIfInBounds_toArray, List.set_cons_zero, List.set_cons_succ, i64_w, i32_w]
  rfl
 refine pure_ (i := 5) (N := some 7) (v := ?_) (a' := ?_) #[true, true, true, true, false, true, false] rfl rfl (by kernel_rfl) (fun _ _ _ h => h) (Or.inl ⟨by rfl, ?_⟩) ?_ ?_
 rotate_left
 ·intro w'
  go_simp
  with_reducible rfl
 rotate_left
 ·simp only [Act.put, List.setIfInBounds_toArray, List.set_cons_zero, List.set_cons_succ, i64_w, i32_w]
  rfl
 refine take_ (i := 4) (N := some 15) (v := ?_) (a' := ?_) #[true, true, true, true, true, true, false] rfl rfl (by kernel_rfl) (fun _ _ _ h => h) (Or.inl ⟨by rfl, ?_⟩) hHeld ?_ ?_
 rotate_left
 ·rintro w' ⟨s0, s1⟩
  go_simp
  with_reducible rfl
 rotate_left
 ·simp only [Act.put, List.setIfInBounds_toArray, List.set_cons_zero, List.set_cons_succ, i64_w, i32_w]
  rfl
 refine pure_ (i := 6) (N := some 8) (v := ?_) (a' := ?_) #[true, true, true, true, true, true, true] rfl rfl (by kernel_rfl) (fun _ _ _ h => h) (Or.inl ⟨by rfl, ?_⟩) ?_ ?_
 rotate_left
 ·intro w'
  go_simp
  with_reducible rfl
 rotate_left
 ·simp only [Act.put, List.setIfInBounds_toArray, List.set_cons_zero, List.set_cons_succ, i64_w, i32_w]
  rfl
 refine done_ (by kernel_rfl) ?_
 try go_wp2
 replace BK128 := Aside0.mk (blk_drew BK128.out)
 replace BK129 := Aside0.mk (blk_drew BK129.out)
 replace HB := Aside0.mk (below_drew1 HB.out)
 refine start_ (n := 11) (S := fun w' => w'.cell? ⟨gb128, 0, none⟩ = some (.int .i64 a0_0) ∧ w'.cell? ⟨gb128, 1, none⟩ = some (.int .u64 a0_1)) (ds := []) #[false, false, false, false, false, false, false, false, false, false, false] (by kernel_rfl) rfl rfl ⟨(blk_cell BK128.out 0).trans rfl, (blk_cell BK128.out 1).trans rfl⟩ (fun hHeld => ?_); refine with_tabW wide_down.tab4 wide_down.bits4 (fun HT_ HW_ => ?_)
 generalize w16.drew = w17 at BK128 BK129 HB hHeld ⊢
 refine yp_ ?_ 0 20
 refine yp_ ?_ 3 23
 refine yp_ ?_ 5 25
 refine yt2_ ?_ 1 21
 refine yp_ ?_ 2 22
 refine yt2_ ?_ 4 24
 refine yp_ ?_ 6 26
 refine yp_ ?_ 7 27
 refine yp_ ?_ 8 28
 refine yo_ 9 (some 10) (fun K hK => ?_)
 refine box_step ?hg (N := 10) ?hd (cs := #[.int .i64 0, .int .u64 0]) (t := 25) ?hr ?_; (case hd => rfl); (case hg => rfl); (case hr => first | (go_simp; done) | (go_simp; rfl))
 intro gb130 hg w18 hbox hb
 have BK130 := Aside0.mk (hbox)
 have GW130 := Aside0.mk (zs_ hg (zw2_ HB GE128 GE129))
 have GE130 := Aside0.mk (zs_ hg (zw2_ HB GE128 GE129))
 replace HB := Aside0.mk (below_step (zw2_ HB GE128 GE129) hb)
 have NB128_130 := Aside0.mk (zn_ hg BK128)
 have NB130_128 := Aside0.mk (zm_ hg BK128)
 replace BK128 := za_ BK128 hb
 have NB129_130 := Aside0.mk (zn_ hg BK129)
 have NB130_129 := Aside0.mk (zm_ hg BK129)
 replace BK129 := za_ BK129 hb
 clear hb hbox hg
 refine hK.out _ _ ⟨zx_ BK128 0, zx_ BK128 1⟩ (fun hHeld => ?_)
 clear hK K
 refine zq_ (some 10) (h := ?_)
 refine yo_ 10 none (fun K hK => ?_)
 have hs19 := zx_ (v := .int .i64 0) BK130 0
 have hfs19 := blk_frozen BK130.out 0
 have hns19_0 := NB128_130.out
 have hns19_1 := NB129_130.out
 have hms19_0 := NB130_128.out
 have hms19_1 := NB130_129.out
 have hs20 := zx_ (v := .int .u64 0) BK130 1
 have hfs20 := blk_frozen BK130.out 1
 have hns20_0 := NB128_130.out
 have hns20_1 := NB129_130.out
 have hms20_0 := NB130_128.out
 have hms20_1 := NB130_129.out
 refine skip_ (w1 := ?_) (by rfl) rfl ?_ ?_
 rotate_left
 ·go_simp
  rfl
 refine hK.out _ _ ⟨((cell_far (p := ⟨gb130, _, none⟩) NB128_130.out _).trans (((cell_far (p := ⟨gb130, _, none⟩) NB128_130.out _).trans (hHeld.1)))), ((cell_far (p := ⟨gb130, _, none⟩) NB128_130.out _).trans (((cell_far (p := ⟨gb130, _, none⟩) NB128_130.out _).trans (hHeld.2))))⟩ (fun hHeld => ?_)
 clear hK K
 refine done_ (done_of HT_.out (by kernel_rfl)) ?_
 try go_wp2
 have n0_ : Aside0 (((w18.setCell ⟨gb130, 0, none⟩ (.int .i64 (a0_0 / 9223372036854775808))).setCell ⟨gb130, 1, none⟩ (.int .u64 (IntKind.u64.wrap (ji6)))).heap[gb128]? = some (.cells #[.int .i64 a0_0, .int .u64 a0_1] 25 (0, 0))) := ⟨zv1_ BK128 NB128_130⟩
 have n1_ : Aside0 (((w18.setCell ⟨gb130, 0, none⟩ (.int .i64 (a0_0 / 9223372036854775808))).setCell ⟨gb130, 1, none⟩ (.int .u64 (IntKind.u64.wrap (ji6)))).heap[gb129]? = some (.cells #[.int .i64 0, .int .u64 0] 25 (0, 0))) := ⟨zv1_ BK129 NB129_130⟩
 have n2_ : Aside0 (((w18.setCell ⟨gb130, 0, none⟩ (.int .i64 (a0_0 / 9223372036854775808))).setCell ⟨gb130, 1, none⟩ (.int .u64 (IntKind.u64.wrap (ji6)))).heap[gb130]? = some (.cells #[.int .i64 (a0_0 / 9223372036854775808), .int .u64 (IntKind.u64.wrap (ji6))] 25 (0, 0))) := ⟨zo2_ BK130⟩
 have n3_ : Aside0 (Below w.heap.size w ((w18.setCell ⟨gb130, 0, none⟩ (.int .i64 (a0_0 / 9223372036854775808))).setCell ⟨gb130, 1, none⟩ (.int .u64 (IntKind.u64.wrap (ji6))))) := ⟨zw3_ HB GE128 GE129 GE130⟩
 (try clear BK128)
 (try clear BK129)
 (try clear BK130)
 (try clear HB)
 generalize ((w18.setCell ⟨gb130, 0, none⟩ (.int .i64 (a0_0 / 9223372036854775808))).setCell ⟨gb130, 1, none⟩ (.int .u64 (IntKind.u64.wrap (ji6)))) = w21 at n0_ n1_ n2_ n3_ ⊢
 have BK128 := n0_
 have BK129 := n1_
 have BK130 := n2_
 have HB := n3_
 clear n0_ n1_ n2_ n3_
 replace BK128 := Aside0.mk (blk_drew BK128.out)
 replace BK129 := Aside0.mk (blk_drew BK129.out)
 replace BK130 := Aside0.mk (blk_drew BK130.out)
 replace HB := Aside0.mk (below_drew1 HB.out)
 refine start_ (n := 16) (S := fun w' => w'.cell? ⟨gb130, 0, none⟩ = some (.int .i64 (a0_0 / 9223372036854775808)) ∧ w'.cell? ⟨gb130, 1, none⟩ = some (.int .u64 (IntKind.u64.wrap (ji6)))) (ds := []) #[false, false, false, false, false, false, false, false, false, false, false, false, false, false, false, false] (by kernel_rfl) rfl rfl ⟨(blk_cell BK130.out 0).trans rfl, (blk_cell BK130.out 1).trans rfl⟩ (fun hHeld => ?_); refine with_tabW wide_down.tab5 wide_down.bits5 (fun HT_ HW_ => ?_)
 generalize w21.drew = w22 at BK128 BK129 BK130 HB hHeld ⊢
 refine yp_ ?_ 1 30
 refine yp_ ?_ 2 31
 refine yp_ ?_ 3 32
 refine yp_ ?_ 4 33
 refine yp_ ?_ 5 34
 refine yp_ ?_ 6 35
 refine yp_ ?_ 7 36
 refine yp_ ?_ 8 37
 refine yp_ ?_ 9 38
 refine yp_ ?_ 10 39
 refine yp_ ?_ 11 40
 refine yp_ ?_ 12 41
 refine yt2_ ?_ 0 29
 refine yo_ 13 none (fun K hK => ?_)
 have hs23 := zx_ (v := .int .i64 0) BK129 0
 have hfs23 := blk_frozen BK129.out 0
 have hns23_0 := NB128_129.out
 have hns23_2 := NB130_129.out
 have hms23_0 := NB129_128.out
 have hms23_2 := NB129_130.out
 have hs24 := zx_ (v := .int .u64 0) BK129 1
 have hfs24 := blk_frozen BK129.out 1
 have hns24_0 := NB128_129.out
 have hns24_2 := NB130_129.out
 have hms24_0 := NB129_128.out
 have hms24_2 := NB129_130.out
 refine skip_ (w1 := ?_) (by rfl) rfl ?_ ?_
 rotate_left
 ·go_simp
  rfl
 refine hK.out _ _ ⟨((cell_far (p := ⟨gb129, _, none⟩) NB130_129.out _).trans (((cell_far (p := ⟨gb129, _, none⟩) NB130_129.out _).trans (hHeld.1)))), ((cell_far (p := ⟨gb129, _, none⟩) NB130_129.out _).trans (((cell_far (p := ⟨gb129, _, none⟩) NB130_129.out _).trans (hHeld.2))))⟩ (fun hHeld => ?_)
 clear hK K
 refine yp_ ?_ 14 5
 refine yp_ ?_ 15 6
 refine done_ (done_of HT_.out (by kernel_rfl)) ?_
 try go_wp2
 refine bodyPost_ret (results_ctt rfl _ _ gb129 25 #[.int .i64 (a0_0 / 9223372036854775808), .int .u64 (IntKind.u64.wrap (ji6))] (0, 0) _ rfl (zo2_ BK129) Try.underlying25 rfl (by kernel_rfl)) rfl ?_
 exact ⟨by first | rfl | (simp [errW_none, errW_some] <;> rfl) | (simp only [← hji4, ← hji6, ← hji7, ← hji9, ← hji11, ← hji13]; first | rfl | (simp [errW_none, errW_some] <;> rfl)) | (simp [*, errW_none, errW_some] <;> rfl), zw3_ HB GE128 GE129 GE130⟩

end Go.Proofs.Ytalghnbolnimiaa.PWideBack
