/- The functions that the law ConvKnown reaches, as Lean functions, and that each call of the Go function does what its Lean function says, wherever that one answers. Written by a program of mine over the print of the kit; Lean checks it. -/
import Derived.Test.YtcipfhlcgnomaaaPConvKnownx0
import Derived.Test.YtcipfhlcgnomaaaPConvKnownx2
namespace Go.Proofs.Ytcipfhlcgnomaaa.PConvKnown
open Go.RowKit Go.Proofs.YtcipfhlcgnomaaaW.PrintWords Go.Proofs.YtcipfhlcgnomaaaW.PrintLast Go.Proofs.YtcipfhlcgnomaaaW.PrintMore
attribute [local go_sem] max2_int min2_int max_two min_two max_three min_three max_four min_four   -- for this text's walks alone
set_option linter.unusedVariables false
set_option linter.unusedSimpArgs false

/-! ### wide_down: function 59 -/
def wide_down.f (a0_0 : Int) (a0_1 : Int) (a1 : Int) : Option (Int × Int × Int × Int) := if a1 ≥ 64 then (if 0 ≤ (wrap64 (a1 - 64)) then (if 0 ≤ (wrap64 (64 - (wrap64 (a1 - 64)))) then (some (a0_0 / 9223372036854775808, IntKind.u64.wrap (shr .i64 a0_0 (wrap64 (a1 - 64))), Go.bits .or .u64 (shl .u64 (IntKind.u64.wrap (a0_0)) (wrap64 (64 - (wrap64 (a1 - 64))))) (shr .u64 a0_1 (wrap64 (a1 - 64))), shl .u64 a0_1 (wrap64 (64 - (wrap64 (a1 - 64)))))) else (none)) else (none)) else (if 0 ≤ a1 then (if 0 ≤ (wrap64 (64 - a1)) then (some (shr .i64 a0_0 a1, Go.bits .or .u64 (shl .u64 (IntKind.u64.wrap (a0_0)) (wrap64 (64 - a1))) (shr .u64 a0_1 a1), shl .u64 a0_1 (wrap64 (64 - a1)), 0)) else (none)) else (none))
def wide_down.T4 : Bool × List (List Nat × List Nat) := (true, [([], []), ([0], [0]), ([1], [1]), ([], []), ([3], [3]), ([], []), ([4, 5], [4, 5]), ([6], [6]), ([2, 7], [2, 7]), ([], []), ([9, 8, 0, 1, 2, 3, 4, 5, 6, 7, 8, 9], [8, 9])])
def wide_down.B4 : List Nat := [0, 1, 3, 0, 8, 0, 56, 120, 255, 0, 1023]
theorem wide_down.tab4 : rtab .any (opsOf Try.f59 4) = wide_down.T4 := by kernel_rfl
theorem wide_down.bits4 : waitsOk wide_down.T4.2 wide_down.B4 = true := by kernel_rfl
def wide_down.T5 : Bool × List (List Nat × List Nat) := (true, [([], []), ([], []), ([], []), ([2], [2]), ([1, 3], [1, 3]), ([], []), ([], []), ([5, 6], [5, 6]), ([4, 7], [4, 7]), ([], []), ([], []), ([10], [10]), ([9, 11], [9, 11]), ([0, 0], [0]), ([8, 13, 0, 1, 2, 3, 4, 5, 6, 7, 8, 13], [8]), ([12, 14, 0, 1, 2, 3, 4, 5, 6, 7, 8, 9, 10, 11, 12, 13, 14], [12])])
def wide_down.B5 : List Nat := [0, 0, 0, 4, 14, 0, 0, 96, 254, 0, 0, 1024, 3584, 1, 8703, 32767]
theorem wide_down.tab5 : rtab .any (opsOf Try.f59 5) = wide_down.T5 := by kernel_rfl
theorem wide_down.bits5 : waitsOk wide_down.T5.2 wide_down.B5 = true := by kernel_rfl
def wide_down.T6 : Bool × List (List Nat × List Nat) := (true, [([], []), ([0], [0]), ([], []), ([1, 2], [1, 2]), ([], []), ([], []), ([5], [5]), ([4, 6], [4, 6]), ([], []), ([], []), ([8, 9], [8, 9]), ([7, 10], [7, 10]), ([3, 11], [3, 11]), ([], []), ([], []), ([14], [14]), ([13, 15], [13, 15]), ([12, 0, 1, 2, 3, 4, 5, 6, 7, 8, 9, 10, 11, 12], [12]), ([16, 17, 0, 1, 2, 3, 4, 5, 6, 7, 8, 9, 10, 11, 12, 13, 14, 15, 16, 17], [16]), ([18, 0, 1, 2, 3, 4, 5, 6, 7, 8, 9, 10, 11, 12, 13, 14, 15, 16, 17, 18], [])])
def wide_down.B6 : List Nat := [0, 1, 0, 7, 0, 0, 32, 112, 0, 0, 768, 2032, 4095, 0, 0, 16384, 57344, 8191, 262143, 524287]
theorem wide_down.tab6 : rtab .any (opsOf Try.f59 6) = wide_down.T6 := by kernel_rfl
theorem wide_down.bits6 : waitsOk wide_down.T6.2 wide_down.B6 = true := by kernel_rfl
set_option maxHeartbeats 8000000 in
set_option maxRecDepth 100000 in
theorem wide_down.calls (a0_0 : Int) (a0_1 : Int) (a1 : Int) (r1 : Int) (r2 : Int) (r3 : Int) (r4 : Int) (w : World) (h : wide_down.f a0_0 a0_1 a1 = some (r1, r2, r3, r4)) :
  Calls Try.prog 59 #[.agg #[.int .i64 a0_0, .int .u64 a0_1], .int .i64 a1] w fun e w' => e = .returned (.tuple #[.agg #[.int .i64 r1, .int .u64 r2], .int .u64 r3, .int .u64 r4]) ∧ Below w.heap.size w w' := by
 have hu52 := Try.underlying52
 have HB := Aside0.mk (Below.refl w.heap.size w)
 have H : (if a1 ≥ 64 then (if 0 ≤ (wrap64 (a1 - 64)) then (if 0 ≤ (wrap64 (64 - (wrap64 (a1 - 64)))) then (some (a0_0 / 9223372036854775808, IntKind.u64.wrap (shr .i64 a0_0 (wrap64 (a1 - 64))), Go.bits .or .u64 (shl .u64 (IntKind.u64.wrap (a0_0)) (wrap64 (64 - (wrap64 (a1 - 64))))) (shr .u64 a0_1 (wrap64 (a1 - 64))), shl .u64 a0_1 (wrap64 (64 - (wrap64 (a1 - 64)))))) else (none)) else (none)) else (if 0 ≤ a1 then (if 0 ≤ (wrap64 (64 - a1)) then (some (shr .i64 a0_0 a1, Go.bits .or .u64 (shl .u64 (IntKind.u64.wrap (a0_0)) (wrap64 (64 - a1))) (shr .u64 a0_1 a1), shl .u64 a0_1 (wrap64 (64 - a1)), 0)) else (none)) else (none))) = some (r1, r2, r3, r4) := h
 clear h
 by_cases c3 : a1 ≥ 64
 rotate_left
 ·rw [if_neg c3] at H
  have c3b0 : decide (64 ≤ a1) = false := decide_eq_false c3
  clear c3
  by_cases c25 : 0 ≤ a1
  rotate_left
  ·rw [if_neg c25] at H
   exact absurd H (by simp)
  rw [if_pos c25] at H
  have c25b0 := eq_true c25
  have c25b1 : decide (0 ≤ a1) = true := decide_eq_true c25
  clear c25
  obtain ⟨ji26, hji26⟩ : ∃ j_ : Int, (shr .i64 a0_0 a1) = j_ := ⟨_, rfl⟩
  replace H : (if 0 ≤ (wrap64 (64 - a1)) then (some (ji26, Go.bits .or .u64 (shl .u64 (IntKind.u64.wrap (a0_0)) (wrap64 (64 - a1))) (shr .u64 a0_1 a1), shl .u64 a0_1 (wrap64 (64 - a1)), 0)) else (none)) = some (r1, r2, r3, r4) := by first | (rw [hji26] at H; exact H) | (simp only [hji26] at H ⊢; exact H)
  have hji26_ : (a0_0 / 2 ^ min a1.toNat 64) = ji26 := hji26
  have hji26z : a1 ≤ 64 → (a0_0 / 2 ^ a1.toNat) = ji26 := shr_small hji26
  obtain ⟨ji27, hji27⟩ : ∃ j_ : Int, (wrap64 (64 - a1)) = j_ := ⟨_, rfl⟩
  replace H : (if 0 ≤ (ji27) then (some (ji26, Go.bits .or .u64 (shl .u64 (IntKind.u64.wrap (a0_0)) (ji27)) (shr .u64 a0_1 a1), shl .u64 a0_1 (ji27), 0)) else (none)) = some (r1, r2, r3, r4) := by first | (rw [hji27] at H; exact H) | (simp only [hji27] at H ⊢; exact H)
  have hji27w : (IntKind.i64.wrap (64 - a1)) = ji27 := (i64_w _).trans hji27
  by_cases c28 : 0 ≤ (ji27)
  rotate_left
  ·rw [if_neg c28] at H
   exact absurd H (by simp)
  rw [if_pos c28] at H
  have c28b0 := eq_true c28
  have c28b1 : decide (0 ≤ (ji27)) = true := decide_eq_true c28
  clear c28
  obtain ⟨ji29, hji29⟩ : ∃ j_ : Int, (shl .u64 (IntKind.u64.wrap (a0_0)) (ji27)) = j_ := ⟨_, rfl⟩
  replace H : (some (ji26, Go.bits .or .u64 (ji29) (shr .u64 a0_1 a1), shl .u64 a0_1 (ji27), 0)) = some (r1, r2, r3, r4) := by first | (rw [hji29] at H; exact H) | (simp only [hji29] at H ⊢; exact H)
  have hji29_ : (IntKind.u64.wrap ((IntKind.u64.wrap (a0_0)) * 2 ^ min (ji27).toNat 64)) = ji29 := hji29
  have hji29z : (ji27) ≤ 64 → (IntKind.u64.wrap ((IntKind.u64.wrap (a0_0)) * 2 ^ (ji27).toNat)) = ji29 := shl_small hji29
  have c30b0 := eq_true (of_decide_eq_true (by first | (with_reducible assumption) | assumption) : 0 ≤ a1)
  obtain ⟨ji31, hji31⟩ : ∃ j_ : Int, (shr .u64 a0_1 a1) = j_ := ⟨_, rfl⟩
  replace H : (some (ji26, Go.bits .or .u64 (ji29) (ji31), shl .u64 a0_1 (ji27), 0)) = some (r1, r2, r3, r4) := by first | (rw [hji31] at H; exact H) | (simp only [hji31] at H ⊢; exact H)
  have hji31_ : (a0_1 / 2 ^ min a1.toNat 64) = ji31 := hji31
  have hji31z : a1 ≤ 64 → (a0_1 / 2 ^ a1.toNat) = ji31 := shr_small hji31
  have c32b0 := eq_true (of_decide_eq_true (by first | (with_reducible assumption) | assumption) : 0 ≤ (ji27))
  obtain ⟨ji33, hji33⟩ : ∃ j_ : Int, (shl .u64 a0_1 (ji27)) = j_ := ⟨_, rfl⟩
  replace H : (some (ji26, Go.bits .or .u64 (ji29) (ji31), ji33, 0)) = some (r1, r2, r3, r4) := by first | (rw [hji33] at H; exact H) | (simp only [hji33] at H ⊢; exact H)
  have hji33_ : (IntKind.u64.wrap (a0_1 * 2 ^ min (ji27).toNat 64)) = ji33 := hji33
  have hji33z : (ji27) ≤ 64 → (IntKind.u64.wrap (a0_1 * 2 ^ (ji27).toNat)) = ji33 := shl_small hji33
  simp only [Option.some.injEq, Prod.mk.injEq] at H
  obtain ⟨rfl, rfl, rfl, rfl⟩ := H
  go_enter Try.func59, Try.ntmps59
  try go_wp2_with (first | ((with_reducible refine gate_dst (N := 2) rfl ?_); refine box_event ?hg (N := 2) ?hd (cs := #[.int .i64 a0_0, .int .u64 a0_1]) (t := 52) ?hr ?_; (case hd => rfl); (case hg => rfl); (case hr => first | (go_simp; done) | (go_simp; rfl)); intro gb150 hg w34 hbox hb; have BK150 := Aside0.mk (hbox); have GW150 := Aside0.mk (zs_ hg (zw0_ HB)); have GE150 := Aside0.mk (zs_ hg (zw0_ HB)); replace HB := Aside0.mk (below_step (zw0_ HB) hb); clear hb hbox hg) | ((with_reducible refine gate_dst (N := 4) rfl ?_); refine box_event ?hg (N := 4) ?hd (cs := #[.int .i64 0, .int .u64 0]) (t := 52) ?hr ?_; (case hd => rfl); (case hg => rfl); (case hr => first | (go_simp; done) | (go_simp; rfl)); intro gb151 hg w35 hbox hb; have BK151 := Aside0.mk (hbox); have GW151 := Aside0.mk (zs_ hg (zw1_ HB GE150)); have GE151 := Aside0.mk (zs_ hg (zw1_ HB GE150)); replace HB := Aside0.mk (below_step (zw1_ HB GE150) hb); have NB150_151 := Aside0.mk (zn_ hg BK150); have NB151_150 := Aside0.mk (zm_ hg BK150); replace BK150 := za_ BK150 hb; clear hb hbox hg))
  replace BK150 := Aside0.mk (blk_drew BK150.out)
  replace BK151 := Aside0.mk (blk_drew BK151.out)
  replace HB := Aside0.mk (below_drew1 HB.out)
  refine start_ (n := 7) (S := fun w' => w'.cell? ⟨gb150, 0, none⟩ = some (.int .i64 a0_0) ∧ w'.cell? ⟨gb150, 1, none⟩ = some (.int .u64 a0_1)) (ds := []) #[false, false, false, false, false, false, false] (by kernel_rfl) rfl rfl ⟨(blk_cell BK150.out 0).trans rfl, (blk_cell BK150.out 1).trans rfl⟩ (fun hHeld => ?_)
  generalize w35.drew = w36 at BK150 BK151 HB hHeld ⊢
  refine pure_ (i := 0) (N := some 11) (v := ?_) (a' := ?_) #[true, false, false, false, false, false, false] rfl rfl (by kernel_rfl) (fun _ _ _ h => h) (Or.inl ⟨by rfl, ?_⟩) ?_ ?_
  rotate_left
  ·intro w'
   go_simp
   with_reducible rfl
  rotate_left
  ·simp only [Act.put, List.setIfInBounds_toArray, List.set_cons_zero, List.set_cons_succ, i64_w, i32_w]
   rfl
  refine pure_ (i := 3) (N := some 14) (v := ?_) (a' := ?_) #[true, false, false, true, false, false, false] rfl rfl (by kernel_rfl) (fun _ _ _ h => h) (Or.inl ⟨by rfl, ?_⟩) ?_ ?_
  rotate_left
  ·intro w'
   go_simp
   with_reducible rfl
  rotate_left
  ·simp only [Act.put, List.setIfInBounds_toArray, List.set_cons_zero, List.set_cons_succ, i64_w, i32_w]
   rfl
  refine take_ (i := 1) (N := some 12) (v := ?_) (a' := ?_) #[true, true, false, true, false, false, false] rfl rfl (by kernel_rfl) (fun _ _ _ h => h) (Or.inl ⟨by rfl, ?_⟩) hHeld ?_ ?_
  rotate_left
  ·rintro w' ⟨s0, s1⟩
   go_simp
   with_reducible rfl
  rotate_left
  ·simp only [Act.put, List.setIfInBounds_toArray, List.set_cons_zero, List.set_cons_succ, i64_w, i32_w]
   rfl
  refine pure_ (i := 2) (N := some 13) (v := ?_) (a' := ?_) #[true, true, true, true, false, false, false] rfl rfl (by kernel_rfl) (fun _ _ _ h => h) (Or.inl ⟨by rfl, ?_⟩) ?_ ?_
  rotate_left
  ·intro w'
   go_simp
   with_reducible rfl
  rotate_left
  ·simp only [Act.put, List.setIfInBounds_toArray, List.set_cons_zero, List.set_cons_succ, i64_w, i32_w]
   rfl
  refine pure_ (i := 5) (N := some 7) (v := ?_) (a' := ?_) #[true, true, true, true, false, true, false] rfl rfl (by kernel_rfl) (fun _ _ _ h => h) (Or.inl ⟨by rfl, ?_⟩) ?_ ?_
  rotate_left
  ·intro w'
   go_simp
   with_reducible rfl
  rotate_left
  ·simp only [Act.put, List.setIfInBounds_toArray, List.set_cons_zero, List.set_cons_succ, i64_w, i32_w]
   rfl
  refine take_ (i := 4) (N := some 15) (v := ?_) (a' := ?_) #[true, true, true, true, true, true, false] rfl rfl (by kernel_rfl) (fun _ _ _ h => h) (Or.inl ⟨by rfl, ?_⟩) hHeld ?_ ?_
  rotate_left
  ·rintro w' ⟨s0, s1⟩
   go_simp
   with_reducible rfl
  rotate_left
  ·simp only [Act.put, List.setIfInBounds_toArray, List.set_cons_zero, List.set_cons_succ, i64_w, i32_w]
   rfl
  refine pure_ (i := 6) (N := some 8) (v := ?_) (a' := ?_) #[true, true, true, true, true, true, true] rfl rfl (by kernel_rfl) (fun _ _ _ h => h) (Or.inl ⟨by rfl, ?_⟩) ?_ ?_
  rotate_left
  ·intro w'
   go_simp
   with_reducible rfl
  rotate_left
  ·simp only [Act.put, List.setIfInBounds_toArray, List.set_cons_zero, List.set_cons_succ, i64_w, i32_w]
   rfl
  refine done_ (by kernel_rfl) ?_
  try go_wp2
  replace BK150 := Aside0.mk (blk_drew BK150.out)
  replace BK151 := Aside0.mk (blk_drew BK151.out)
  replace HB := Aside0.mk (below_drew1 HB.out)
  refine start_ (n := 20) (S := fun w' => w'.cell? ⟨gb150, 0, none⟩ = some (.int .i64 a0_0) ∧ w'.cell? ⟨gb150, 1, none⟩ = some (.int .u64 a0_1)) (ds := []) #[false, false, false, false, false, false, false, false, false, false, false, false, false, false, false, false, false, false, false, false] (by kernel_rfl) rfl rfl ⟨(blk_cell BK150.out 0).trans rfl, (blk_cell BK150.out 1).trans rfl⟩ (fun hHeld => ?_); refine with_tabW wide_down.tab6 wide_down.bits6 (fun HT_ HW_ => ?_)
  generalize w36.drew = w37 at BK150 BK151 HB hHeld ⊢
  refine yp_ ?_ 0 42
  refine yp_ ?_ 2 44
  refine yp_ ?_ 4 46
  refine yp_ ?_ 5 47
  refine yp_ ?_ 6 48
  refine yp_ ?_ 7 49
  refine yp_ ?_ 8 50
  refine yp_ ?_ 9 51
  refine yp_ ?_ 10 52
  refine yp_ ?_ 11 53
  refine yp_ ?_ 13 55
  refine yp_ ?_ 14 56
  refine yp_ ?_ 15 57
  refine yp_ ?_ 16 58
  refine yt2_ ?_ 1 43
  refine yp_ ?_ 3 45
  refine yp_ ?_ 12 54
  refine yo_ 17 none (fun K hK => ?_)
  have hs38 := zx_ (v := .int .i64 0) BK151 0
  have hfs38 := blk_frozen BK151.out 0
  have hns38_0 := NB150_151.out
  have hms38_0 := NB151_150.out
  have hs39 := zx_ (v := .int .u64 0) BK151 1
  have hfs39 := blk_frozen BK151.out 1
  have hns39_0 := NB150_151.out
  have hms39_0 := NB151_150.out
  refine skip_ (w1 := ?_) (by rfl) rfl ?_ ?_
  rotate_left
  ·go_simp
   rfl
  refine hK.out _ _ ⟨((cell_far (p := ⟨gb151, _, none⟩) NB150_151.out _).trans (((cell_far (p := ⟨gb151, _, none⟩) NB150_151.out _).trans (hHeld.1)))), ((cell_far (p := ⟨gb151, _, none⟩) NB150_151.out _).trans (((cell_far (p := ⟨gb151, _, none⟩) NB150_151.out _).trans (hHeld.2))))⟩ (fun hHeld => ?_)
  clear hK K
  refine yp_ ?_ 18 5
  refine yp_ ?_ 19 6
  refine done_ (done_of HT_.out (by kernel_rfl)) ?_
  try go_wp2
  refine bodyPost_ret (results_ctt rfl _ _ gb151 52 #[.int .i64 ji26, .int .u64 (Go.bits .or .u64 (ji29) (ji31))] (0, 0) _ rfl (zo2_ BK151) Try.underlying52 rfl (by kernel_rfl)) rfl ?_
  exact ⟨by first | rfl | (simp [errW_none, errW_some] <;> rfl) | (simp only [← hji26, ← hji27, ← hji29, ← hji31, ← hji33]; first | rfl | (simp [errW_none, errW_some] <;> rfl)) | (simp [*, errW_none, errW_some] <;> rfl), zw2_ HB GE150 GE151⟩
 rw [if_pos c3] at H
 have c3b0 : decide (64 ≤ a1) = true := decide_eq_true c3
 clear c3
 obtain ⟨ji4, hji4⟩ : ∃ j_ : Int, (wrap64 (a1 - 64)) = j_ := ⟨_, rfl⟩
 replace H : (if 0 ≤ (ji4) then (if 0 ≤ (wrap64 (64 - (ji4))) then (some (a0_0 / 9223372036854775808, IntKind.u64.wrap (shr .i64 a0_0 (ji4)), Go.bits .or .u64 (shl .u64 (IntKind.u64.wrap (a0_0)) (wrap64 (64 - (ji4)))) (shr .u64 a0_1 (ji4)), shl .u64 a0_1 (wrap64 (64 - (ji4))))) else (none)) else (none)) = some (r1, r2, r3, r4) := by first | (rw [hji4] at H; exact H) | (simp only [hji4] at H ⊢; exact H)
 have hji4w : (IntKind.i64.wrap (a1 - 64)) = ji4 := (i64_w _).trans hji4
 by_cases c5 : 0 ≤ (ji4)
 rotate_left
 ·rw [if_neg c5] at H
  exact absurd H (by simp)
 rw [if_pos c5] at H
 have c5b0 := eq_true c5
 have c5b1 : decide (0 ≤ (ji4)) = true := decide_eq_true c5
 clear c5
 obtain ⟨ji6, hji6⟩ : ∃ j_ : Int, (shr .i64 a0_0 (ji4)) = j_ := ⟨_, rfl⟩
 replace H : (if 0 ≤ (wrap64 (64 - (ji4))) then (some (a0_0 / 9223372036854775808, IntKind.u64.wrap (ji6), Go.bits .or .u64 (shl .u64 (IntKind.u64.wrap (a0_0)) (wrap64 (64 - (ji4)))) (shr .u64 a0_1 (ji4)), shl .u64 a0_1 (wrap64 (64 - (ji4))))) else (none)) = some (r1, r2, r3, r4) := by first | (rw [hji6] at H; exact H) | (simp only [hji6] at H ⊢; exact H)
 have hji6_ : (a0_0 / 2 ^ min (ji4).toNat 64) = ji6 := hji6
 have hji6z : (ji4) ≤ 64 → (a0_0 / 2 ^ (ji4).toNat) = ji6 := shr_small hji6
 obtain ⟨ji7, hji7⟩ : ∃ j_ : Int, (wrap64 (64 - (ji4))) = j_ := ⟨_, rfl⟩
 replace H : (if 0 ≤ (ji7) then (some (a0_0 / 9223372036854775808, IntKind.u64.wrap (ji6), Go.bits .or .u64 (shl .u64 (IntKind.u64.wrap (a0_0)) (ji7)) (shr .u64 a0_1 (ji4)), shl .u64 a0_1 (ji7))) else (none)) = some (r1, r2, r3, r4) := by first | (rw [hji7] at H; exact H) | (simp only [hji7] at H ⊢; exact H)
 have hji7w : (IntKind.i64.wrap (64 - (ji4))) = ji7 := (i64_w _).trans hji7
 by_cases c8 : 0 ≤ (ji7)
 rotate_left
 ·rw [if_neg c8] at H
  exact absurd H (by simp)
 rw [if_pos c8] at H
 have c8b0 := eq_true c8
 have c8b1 : decide (0 ≤ (ji7)) = true := decide_eq_true c8
 clear c8
 obtain ⟨ji9, hji9⟩ : ∃ j_ : Int, (shl .u64 (IntKind.u64.wrap (a0_0)) (ji7)) = j_ := ⟨_, rfl⟩
 replace H : (some (a0_0 / 9223372036854775808, IntKind.u64.wrap (ji6), Go.bits .or .u64 (ji9) (shr .u64 a0_1 (ji4)), shl .u64 a0_1 (ji7))) = some (r1, r2, r3, r4) := by first | (rw [hji9] at H; exact H) | (simp only [hji9] at H ⊢; exact H)
 have hji9_ : (IntKind.u64.wrap ((IntKind.u64.wrap (a0_0)) * 2 ^ min (ji7).toNat 64)) = ji9 := hji9
 have hji9z : (ji7) ≤ 64 → (IntKind.u64.wrap ((IntKind.u64.wrap (a0_0)) * 2 ^ (ji7).toNat)) = ji9 := shl_small hji9
 have c10b0 := eq_true (of_decide_eq_true (by first | (with_reducible assumption) | assumption) : 0 ≤ (ji4))
 obtain ⟨ji11, hji11⟩ : ∃ j_ : Int, (shr .u64 a0_1 (ji4)) = j_ := ⟨_, rfl⟩
 replace H : (some (a0_0 / 9223372036854775808, IntKind.u64.wrap (ji6), Go.bits .or .u64 (ji9) (ji11), shl .u64 a0_1 (ji7))) = some (r1, r2, r3, r4) := by first | (rw [hji11] at H; exact H) | (simp only [hji11] at H ⊢; exact H)
 have hji11_ : (a0_1 / 2 ^ min (ji4).toNat 64) = ji11 := hji11
 have hji11z : (ji4) ≤ 64 → (a0_1 / 2 ^ (ji4).toNat) = ji11 := shr_small hji11
 have c12b0 := eq_true (of_decide_eq_true (by first | (with_reducible assumption) | assumption) : 0 ≤ (ji7))
 obtain ⟨ji13, hji13⟩ : ∃ j_ : Int, (shl .u64 a0_1 (ji7)) = j_ := ⟨_, rfl⟩
 replace H : (some (a0_0 / 9223372036854775808, IntKind.u64.wrap (ji6), Go.bits .or .u64 (ji9) (ji11), ji13)) = some (r1, r2, r3, r4) := by first | (rw [hji13] at H; exact H) | (simp only [hji13] at H ⊢; exact H)
 have hji13_ : (IntKind.u64.wrap (a0_1 * 2 ^ min (ji7).toNat 64)) = ji13 := hji13
 have hji13z : (ji7) ≤ 64 → (IntKind.u64.wrap (a0_1 * 2 ^ (ji7).toNat)) = ji13 := shl_small hji13
 simp only [Option.some.injEq, Prod.mk.injEq] at H
 obtain ⟨rfl, rfl, rfl, rfl⟩ := H
 go_enter Try.func59, Try.ntmps59
 try go_wp2_with (first | ((with_reducible refine gate_dst (N := 2) rfl ?_); refine box_event ?hg (N := 2) ?hd (cs := #[.int .i64 a0_0, .int .u64 a0_1]) (t := 52) ?hr ?_; (case hd => rfl); (case hg => rfl); (case hr => first | (go_simp; done) | (go_simp; rfl)); intro gb150 hg w14 hbox hb; have BK150 := Aside0.mk (hbox); have GW150 := Aside0.mk (zs_ hg (zw0_ HB)); have GE150 := Aside0.mk (zs_ hg (zw0_ HB)); replace HB := Aside0.mk (below_step (zw0_ HB) hb); clear hb hbox hg) | ((with_reducible refine gate_dst (N := 4) rfl ?_); refine box_event ?hg (N := 4) ?hd (cs := #[.int .i64 0, .int .u64 0]) (t := 52) ?hr ?_; (case hd => rfl); (case hg => rfl); (case hr => first | (go_simp; done) | (go_simp; rfl)); intro gb151 hg w15 hbox hb; have BK151 := Aside0.mk (hbox); have GW151 := Aside0.mk (zs_ hg (zw1_ HB GE150)); have GE151 := Aside0.mk (zs_ hg (zw1_ HB GE150)); replace HB := Aside0.mk (below_step (zw1_ HB GE150) hb); have NB150_151 := Aside0.mk (zn_ hg BK150); have NB151_150 := Aside0.mk (zm_ hg BK150); replace BK150 := za_ BK150 hb; clear hb hbox hg))
 replace BK150 := Aside0.mk (blk_drew BK150.out)
 replace BK151 := Aside0.mk (blk_drew BK151.out)
 replace HB := Aside0.mk (below_drew1 HB.out)
 refine start_ (n := 7) (S := fun w' => w'.cell? ⟨gb150, 0, none⟩ = some (.int .i64 a0_0) ∧ w'.cell? ⟨gb150, 1, none⟩ = some (.int .u64 a0_1)) (ds := []) #[false, false, false, false, false, false, false] (by kernel_rfl) rfl rfl ⟨(blk_cell BK150.out 0).trans rfl, (blk_cell BK150.out 1).trans rfl⟩ (fun hHeld => ?_)
 generalize w15.drew = w16 at BK150 BK151 HB hHeld ⊢
 refine pure_ (i := 0) (N := some 11) (v := ?_) (a' := ?_) #[true, false, false, false, false, false, false] rfl rfl (by kernel_rfl) (fun _ _ _ h => h) (Or.inl ⟨by rfl, ?_⟩) ?_ ?_
 rotate_left
 ·intro w'
  go_simp
  with_reducible rfl
 rotate_left
 ·simp only [Act.put, List.setIfInBounds_toArray, List.set_cons_zero, List.set_cons_succ, i64_w, i32_w]
  rfl
 refine pure_ (i := 3) (N := some 14) (v := ?_) (a' := ?_) #[true, false, false, true, false, false, false] rfl rfl (by kernel_rfl) (fun _ _ _ h => h) (Or.inl ⟨by rfl, ?_⟩) ?_ ?_
 rotate_left
 ·intro w'
  go_simp
  with_reducible rfl
 rotate_left
 ·simp only [Act.put, List.setIfInBounds_toArray, List.set_cons_zero, List.set_cons_succ, i64_w, i32_w]
  rfl
 refine take_ (i := 1) (N := some 12) (v := ?_) (a' := ?_) #[true, true, false, true, false, false, false] rfl rfl (by kernel_rfl) (fun _ _ _ h => h) (Or.inl ⟨by rfl, ?_⟩) hHeld ?_ ?_
 rotate_left
 ·rintro w' ⟨s0, s1⟩
  go_simp
  with_reducible rfl
 rotate_left
 ·simp only [Act.put, List.setIfInBounds_toArray, List.set_cons_zero, List.set_cons_succ, i64_w, i32_w]
  rfl
 refine pure_ (i := 2) (N := some 13) (v := ?_) (a' := ?_) #[true, true, true, true, false, false, false] rfl rfl (by kernel_rfl) (fun _ _ _ h => h) (Or.inl ⟨by rfl, ?_⟩) ?_ ?_
 rotate_left
 ·intro w'
  go_simp
  with_reducible rfl
 rotate_left
 ·simp only [Act.put, List.setIfInBounds_toArray, List.set_cons_zero, List.set_cons_succ, i64_w, i32_w]
  rfl
 refine pure_ (i := 5) (N := some 7) (v := ?_) (a' := ?_) #[true, true, true, true, false, true, false] rfl rfl (by kernel_rfl) (fun _ _ _ h => h) (Or.inl ⟨by rfl, ?_⟩) ?_ ?_
 rotate_left
 ·intro w'
  go_simp
  with_reducible rfl
 rotate_left
 ·simp only [Act.put, List.setIfInBounds_toArray, List.set_cons_zero, List.set_cons_succ, i64_w, i32_w]
  rfl
 refine take_ (i := 4) (N := some 15) (v := ?_) (a' := ?_) #[true, true, true, true, true, true, false] rfl rfl (by kernel_rfl) (fun _ _ _ h => h) (Or.inl ⟨by rfl, ?_⟩) hHeld ?_ ?_
 rotate_left
 ·rintro w' ⟨s0, s1⟩
  go_simp
  with_reducible rfl
 rotate_left
 ·simp only [Act.put, List.setIfInBounds_toArray, List.set_cons_zero, List.set_cons_succ, i64_w, i32_w]
  rfl
 refine pure_ (i := 6) (N := some 8) (v := ?_) (a' := ?_) #[true, true, true, true, true, true, true] rfl rfl (by kernel_rfl) (fun _ _ _ h => h) (Or.inl ⟨by rfl, ?_⟩) ?_ ?_
 rotate_left
 ·intro w'
  go_simp
  with_reducible rfl
 rotate_left
 ·simp only [Act.put, List.setIfInBounds_toArray, List.set_cons_zero, List.set_cons_succ, i64_w, i32_w]
  rfl
 refine done_ (by kernel_rfl) ?_
 try go_wp2
 replace BK150 := Aside0.mk (blk_drew BK150.out)
 replace BK151 := Aside0.mk (blk_drew BK151.out)
 replace HB := Aside0.mk (below_drew1 HB.out)
 refine start_ (n := 11) (S := fun w' => w'.cell? ⟨gb150, 0, none⟩ = some (.int .i64 a0_0) ∧ w'.cell? ⟨gb150, 1, none⟩ = some (.int .u64 a0_1)) (ds := []) #[false, false, false, false, false, false, false, false, false, false, false] (by kernel_rfl) rfl rfl ⟨(blk_cell BK150.out 0).trans rfl, (blk_cell BK150.out 1).trans rfl⟩ (fun hHeld => ?_); refine with_tabW wide_down.tab4 wide_down.bits4 (fun HT_ HW_ => ?_)
 generalize w16.drew = w17 at BK150 BK151 HB hHeld ⊢
 refine yp_ ?_ 0 20
 refine yp_ ?_ 3 23
 refine yp_ ?_ 5 25
 refine yt2_ ?_ 1 21
 refine yp_ ?_ 2 22
 refine yt2_ ?_ 4 24
 refine yp_ ?_ 6 26
 refine yp_ ?_ 7 27
 refine yp_ ?_ 8 28
 refine yo_ 9 (some 10) (fun K hK => ?_)
 refine box_step ?hg (N := 10) ?hd (cs := #[.int .i64 0, .int .u64 0]) (t := 52) ?hr ?_; (case hd => rfl); (case hg => rfl); (case hr => first | (go_simp; done) | (go_simp; rfl))
 intro gb152 hg w18 hbox hb
 have BK152 := Aside0.mk (hbox)
 have GW152 := Aside0.mk (zs_ hg (zw2_ HB GE150 GE151))
 have GE152 := Aside0.mk (zs_ hg (zw2_ HB GE150 GE151))
 replace HB := Aside0.mk (below_step (zw2_ HB GE150 GE151) hb)
 have NB150_152 := Aside0.mk (zn_ hg BK150)
 have NB152_150 := Aside0.mk (zm_ hg BK150)
 replace BK150 := za_ BK150 hb
 have NB151_152 := Aside0.mk (zn_ hg BK151)
 have NB152_151 := Aside0.mk (zm_ hg BK151)
 replace BK151 := za_ BK151 hb
 clear hb hbox hg
 refine hK.out _ _ ⟨zx_ BK150 0, zx_ BK150 1⟩ (fun hHeld => ?_)
 clear hK K
 refine zq_ (some 10) (h := ?_)
 refine yo_ 10 none (fun K hK => ?_)
 have hs19 := zx_ (v := .int .i64 0) BK152 0
 have hfs19 := blk_frozen BK152.out 0
 have hns19_0 := NB150_152.out
 have hns19_1 := NB151_152.out
 have hms19_0 := NB152_150.out
 have hms19_1 := NB152_151.out
 have hs20 := zx_ (v := .int .u64 0) BK152 1
 have hfs20 := blk_frozen BK152.out 1
 have hns20_0 := NB150_152.out
 have hns20_1 := NB151_152.out
 have hms20_0 := NB152_150.out
 have hms20_1 := NB152_151.out
 refine skip_ (w1 := ?_) (by rfl) rfl ?_ ?_
 rotate_left
 ·go_simp
  rfl
 refine hK.out _ _ ⟨((cell_far (p := ⟨gb152, _, none⟩) NB150_152.out _).trans (((cell_far (p := ⟨gb152, _, none⟩) NB150_152.out _).trans (hHeld.1)))), ((cell_far (p := ⟨gb152, _, none⟩) NB150_152.out _).trans (((cell_far (p := ⟨gb152, _, none⟩) NB150_152.out _).trans (hHeld.2))))⟩ (fun hHeld => ?_)
 clear hK K
 refine done_ (done_of HT_.out (by kernel_rfl)) ?_
 try go_wp2
 have n0_ : Aside0 (((w18.setCell ⟨gb152, 0, none⟩ (.int .i64 (a0_0 / 9223372036854775808))).setCell ⟨gb152, 1, none⟩ (.int .u64 (IntKind.u64.wrap (ji6)))).heap[gb150]? = some (.cells #[.int .i64 a0_0, .int .u64 a0_1] 52 (0, 0))) := ⟨zv1_ BK150 NB150_152⟩
 have n1_ : Aside0 (((w18.setCell ⟨gb152, 0, none⟩ (.int .i64 (a0_0 / 9223372036854775808))).setCell ⟨gb152, 1, none⟩ (.int .u64 (IntKind.u64.wrap (ji6)))).heap[gb151]? = some (.cells #[.int .i64 0, .int .u64 0] 52 (0, 0))) := ⟨zv1_ BK151 NB151_152⟩
 have n2_ : Aside0 (((w18.setCell ⟨gb152, 0, none⟩ (.int .i64 (a0_0 / 9223372036854775808))).setCell ⟨gb152, 1, none⟩ (.int .u64 (IntKind.u64.wrap (ji6)))).heap[gb152]? = some (.cells #[.int .i64 (a0_0 / 9223372036854775808), .int .u64 (IntKind.u64.wrap (ji6))] 52 (0, 0))) := ⟨zo2_ BK152⟩
 have n3_ : Aside0 (Below w.heap.size w ((w18.setCell ⟨gb152, 0, none⟩ (.int .i64 (a0_0 / 9223372036854775808))).setCell ⟨gb152, 1, none⟩ (.int .u64 (IntKind.u64.wrap (ji6))))) := ⟨zw3_ HB GE150 GE151 GE152⟩
 (try clear BK150)
 (try clear BK151)
 (try clear BK152)
 (try clear HB)
 generalize ((w18.setCell ⟨gb152, 0, none⟩ (.int .i64 (a0_0 / 9223372036854775808))).setCell ⟨gb152, 1, none⟩ (.int .u64 (IntKind.u64.wrap (ji6)))) = w21 at n0_ n1_ n2_ n3_ ⊢
 have BK150 := n0_
 have BK151 := n1_
 have BK152 := n2_
 have HB := n3_
 clear n0_ n1_ n2_ n3_
 replace BK150 := Aside0.mk (blk_drew BK150.out)
 replace BK151 := Aside0.mk (blk_drew BK151.out)
 replace BK152 := Aside0.mk (blk_drew BK152.out)
 replace HB := Aside0.mk (below_drew1 HB.out)
 refine start_ (n := 16) (S := fun w' => w'.cell? ⟨gb152, 0, none⟩ = some (.int .i64 (a0_0 / 9223372036854775808)) ∧ w'.cell? ⟨gb152, 1, none⟩ = some (.int .u64 (IntKind.u64.wrap (ji6)))) (ds := []) #[false, false, false, false, false, false, false, false, false, false, false, false, false, false, false, false] (by kernel_rfl) rfl rfl ⟨(blk_cell BK152.out 0).trans rfl, (blk_cell BK152.out 1).trans rfl⟩ (fun hHeld => ?_); refine with_tabW wide_down.tab5 wide_down.bits5 (fun HT_ HW_ => ?_)
 generalize w21.drew = w22 at BK150 BK151 BK152 HB hHeld ⊢
 refine yp_ ?_ 1 30
 refine yp_ ?_ 2 31
 refine yp_ ?_ 3 32
 refine yp_ ?_ 4 33
 refine yp_ ?_ 5 34
 refine yp_ ?_ 6 35
 refine yp_ ?_ 7 36
 refine yp_ ?_ 8 37
 refine yp_ ?_ 9 38
 refine yp_ ?_ 10 39
 refine yp_ ?_ 11 40
 refine yp_ ?_ 12 41
 refine yt2_ ?_ 0 29
 refine yo_ 13 none (fun K hK => ?_)
 have hs23 := zx_ (v := .int .i64 0) BK151 0
 have hfs23 := blk_frozen BK151.out 0
 have hns23_0 := NB150_151.out
 have hns23_2 := NB152_151.out
 have hms23_0 := NB151_150.out
 have hms23_2 := NB151_152.out
 have hs24 := zx_ (v := .int .u64 0) BK151 1
 have hfs24 := blk_frozen BK151.out 1
 have hns24_0 := NB150_151.out
 have hns24_2 := NB152_151.out
 have hms24_0 := NB151_150.out
 have hms24_2 := NB151_152.out
 refine skip_ (w1 := ?_) (by rfl) rfl ?_ ?_
 rotate_left
 ·go_simp
  rfl
 refine hK.out _ _ ⟨((cell_far (p := ⟨gb151, _, none⟩) NB152_151.out _).trans (((cell_far (p := ⟨gb151, _, none⟩) NB152_151.out _).trans (hHeld.1)))), ((cell_far (p := ⟨gb151, _, none⟩) NB152_151.out _).trans (((cell_far (p := ⟨gb151, _, none⟩) NB152_151.out _).trans (hHeld.2))))⟩ (fun hHeld => ?_)
 clear hK K
 refine yp_ ?_ 14 5
 refine yp_ ?_ 15 6
 refine done_ (done_of HT_.out (by kernel_rfl)) ?_
 try go_wp2
 refine bodyPost_ret (results_ctt rfl _ _ gb151 52 #[.int .i64 (a0_0 / 9223372036854775808), .int .u64 (IntKind.u64.wrap (ji6))] (0, 0) _ rfl (zo2_ BK151) Try.underlying52 rfl (by kernel_rfl)) rfl ?_
 exact ⟨by first | rfl | (simp [errW_none, errW_some] <;> rfl) | (simp only [← hji4, ← hji6, ← hji7, ← hji9, ← hji11, ← hji13]; first | rfl | (simp [errW_none, errW_some] <;> rfl)) | (simp [*, errW_none, errW_some] <;> rfl), zw3_ HB GE150 GE151 GE152⟩

/-! ### wide_Add: function 60 -/
def wide_Add.f (a0_0 : Int) (a0_1 : Int) (a1_0 : Int) (a1_1 : Int) : Option (Int × Int) := (bits_Add64.f a0_1 a1_1 0).bind fun bt156 => ((bits_Add64.f (IntKind.u64.wrap (a0_0)) (IntKind.u64.wrap (a1_0)) bt156.2).bind fun bt158 => (some (wrap64 (bt158.1), bt156.1)))
set_option maxHeartbeats 8000000 in
set_option maxRecDepth 100000 in
theorem wide_Add.calls (a0_0 : Int) (a0_1 : Int) (a1_0 : Int) (a1_1 : Int) (r1 : Int) (r2 : Int) (w : World) (h : wide_Add.f a0_0 a0_1 a1_0 a1_1 = some (r1, r2)) :
  Calls Try.prog 60 #[.agg #[.int .i64 a0_0, .int .u64 a0_1], .agg #[.int .i64 a1_0, .int .u64 a1_1]] w fun e w' => e = .returned (.agg #[.int .i64 r1, .int .u64 r2]) ∧ Below w.heap.size w w' := by
 have hu52 := Try.underlying52
 have HB := Aside0.mk (Below.refl w.heap.size w)
 have H : ((bits_Add64.f a0_1 a1_1 0).bind fun bt156 => ((bits_Add64.f (IntKind.u64.wrap (a0_0)) (IntKind.u64.wrap (a1_0)) bt156.2).bind fun bt158 => (some (wrap64 (bt158.1), bt156.1)))) = some (r1, r2) := h
 clear h
 replace H := Option.bind_eq_some_iff.mp H
 obtain ⟨⟨t156, t157⟩, A30, H⟩ := H
 replace H : ((bits_Add64.f (IntKind.u64.wrap (a0_0)) (IntKind.u64.wrap (a1_0)) t157).bind fun bt158 => (some (wrap64 (bt158.1), t156))) = some (r1, r2) := H
 have A3 := Aside0.mk A30
 clear A30
 replace H := Option.bind_eq_some_iff.mp H
 obtain ⟨⟨t158, t159⟩, A40, H⟩ := H
 replace H : (some (wrap64 (t158), t156)) = some (r1, r2) := H
 have A4 := Aside0.mk A40
 clear A40
 simp only [Option.some.injEq, Prod.mk.injEq] at H
 obtain ⟨rfl, rfl⟩ := H
 go_enter Try.func60, Try.ntmps60
 go_wp2_with (first | ((with_reducible refine gate_dst (N := 2) rfl ?_); refine box_event ?hg (N := 2) ?hd (cs := #[.int .i64 a0_0, .int .u64 a0_1]) (t := 52) ?hr ?_; (case hd => rfl); (case hg => rfl); (case hr => first | (go_simp; done) | (go_simp; rfl)); intro gb153 hg w5 hbox hb; have BK153 := Aside0.mk (hbox); have GW153 := Aside0.mk (zs_ hg (zw0_ HB)); have GE153 := Aside0.mk (zs_ hg (zw0_ HB)); replace HB := Aside0.mk (below_step (zw0_ HB) hb); clear hb hbox hg) | ((with_reducible refine gate_dst (N := 3) rfl ?_); refine box_event ?hg (N := 3) ?hd (cs := #[.int .i64 a1_0, .int .u64 a1_1]) (t := 52) ?hr ?_; (case hd => rfl); (case hg => rfl); (case hr => first | (go_simp; done) | (go_simp; rfl)); intro gb154 hg w6 hbox hb; have BK154 := Aside0.mk (hbox); have GW154 := Aside0.mk (zs_ hg (zw1_ HB GE153)); have GE154 := Aside0.mk (zs_ hg (zw1_ HB GE153)); replace HB := Aside0.mk (below_step (zw1_ HB GE153) hb); have NB153_154 := Aside0.mk (zn_ hg BK153); have NB154_153 := Aside0.mk (zm_ hg BK153); replace BK153 := za_ BK153 hb; clear hb hbox hg) | ((with_reducible refine gate_dst (N := 4) rfl ?_); refine box_event ?hg (N := 4) ?hd (cs := #[.int .i64 0, .int .u64 0]) (t := 52) ?hr ?_; (case hd => rfl); (case hg => rfl); (case hr => first | (go_simp; done) | (go_simp; rfl)); intro gb155 hg w7 hbox hb; have BK155 := Aside0.mk (hbox); have GW155 := Aside0.mk (zs_ hg (zw2_ HB GE153 GE154)); have GE155 := Aside0.mk (zs_ hg (zw2_ HB GE153 GE154)); replace HB := Aside0.mk (below_step (zw2_ HB GE153 GE154) hb); have NB153_155 := Aside0.mk (zn_ hg BK153); have NB155_153 := Aside0.mk (zm_ hg BK153); replace BK153 := za_ BK153 hb; have NB154_155 := Aside0.mk (zn_ hg BK154); have NB155_154 := Aside0.mk (zm_ hg BK154); replace BK154 := za_ BK154 hb; clear hb hbox hg; have hnb8 := NB153_154.out; have hnc8 := NB154_153.out; have hnb9 := NB153_155.out; have hnc9 := NB155_153.out; have hcz10_0 := zx_ (v := .int .i64 a0_0) BK153 0; have hcz10_1 := zx_ (v := .int .u64 a0_1) BK153 1; have hfz10_0 := blk_frozen BK153.out 0; have hfz10_1 := blk_frozen BK153.out 1; have hnb11 := NB154_155.out; have hnc11 := NB155_154.out; have hcz12_0 := zx_ (v := .int .i64 a1_0) BK154 0; have hcz12_1 := zx_ (v := .int .u64 a1_1) BK154 1; have hfz12_0 := blk_frozen BK154.out 0; have hfz12_1 := blk_frozen BK154.out 1) | ((with_reducible refine gate_callee (f := 44) rfl ?_); refine goesX_ (some 14) rfl rfl (f := 44) #[.int .u64 a0_1, .int .u64 a1_1, .int .u64 0] rfl (by (try simp only [List.map_toArray, List.map_cons, List.map_nil]); first | done | rfl | (simp only [List.length_drop, List.length_take]; rfl)) ?_; (with_reducible refine (bits_Add64.calls a0_1 a1_1 0 t156 t157 _ A3.out).mono ?_); rintro e w' ⟨rfl, ⟨nd, rfl⟩⟩; refine ⟨_, rfl, ?_⟩; (try (rw [drewN_self w7]; generalize hq_ : World.drewN w7 _ = w7; have n0_ : Aside0 (w7.heap[gb153]? = some (.cells #[.int .i64 a0_0, .int .u64 a0_1] 52 (0, 0))) := ⟨by rw [← hq_]; exact (zb_ BK153)⟩; have n1_ : Aside0 (w7.heap[gb154]? = some (.cells #[.int .i64 a1_0, .int .u64 a1_1] 52 (0, 0))) := ⟨by rw [← hq_]; exact (zb_ BK154)⟩; have n2_ : Aside0 (w7.heap[gb155]? = some (.cells #[.int .i64 0, .int .u64 0] 52 (0, 0))) := ⟨by rw [← hq_]; exact (zb_ BK155)⟩; have n3_ : Aside0 (Below w.heap.size w w7) := ⟨by rw [← hq_]; exact (zw3_ HB GE153 GE154 GE155)⟩; clear BK153 BK154 BK155 HB hq_; have BK153 := n0_; have BK154 := n1_; have BK155 := n2_; have HB := n3_; clear n0_ n1_ n2_ n3_; (try (have hcz10_0 := zx_ (v := .int .i64 a0_0) BK153 0)); (try (have hcz10_1 := zx_ (v := .int .u64 a0_1) BK153 1)); (try (have hfz10_0 := blk_frozen BK153.out 0)); (try (have hfz10_1 := blk_frozen BK153.out 1)); (try (have hcz12_0 := zx_ (v := .int .i64 a1_0) BK154 0)); (try (have hcz12_1 := zx_ (v := .int .u64 a1_1) BK154 1)); (try (have hfz12_0 := blk_frozen BK154.out 0)); (try (have hfz12_1 := blk_frozen BK154.out 1))))) | ((with_reducible refine gate_callee (f := 44) rfl ?_); refine goesX_ (some 25) rfl rfl (f := 44) #[.int .u64 (IntKind.u64.wrap (a0_0)), .int .u64 (IntKind.u64.wrap (a1_0)), .int .u64 t157] rfl (by (try simp only [List.map_toArray, List.map_cons, List.map_nil]); first | done | rfl | (simp only [List.length_drop, List.length_take]; rfl)) ?_; (with_reducible refine (bits_Add64.calls (IntKind.u64.wrap (a0_0)) (IntKind.u64.wrap (a1_0)) t157 t158 t159 _ A4.out).mono ?_); rintro e w' ⟨rfl, ⟨nd, rfl⟩⟩; refine ⟨_, rfl, ?_⟩; (try (rw [drewN_self w7]; generalize hq_ : World.drewN w7 _ = w7; have n0_ : Aside0 (w7.heap[gb153]? = some (.cells #[.int .i64 a0_0, .int .u64 a0_1] 52 (0, 0))) := ⟨by rw [← hq_]; exact (zb_ BK153)⟩; have n1_ : Aside0 (w7.heap[gb154]? = some (.cells #[.int .i64 a1_0, .int .u64 a1_1] 52 (0, 0))) := ⟨by rw [← hq_]; exact (zb_ BK154)⟩; have n2_ : Aside0 (w7.heap[gb155]? = some (.cells #[.int .i64 0, .int .u64 0] 52 (0, 0))) := ⟨by rw [← hq_]; exact (zb_ BK155)⟩; have n3_ : Aside0 (Below w.heap.size w w7) := ⟨by rw [← hq_]; exact (zw3_ HB GE153 GE154 GE155)⟩; clear BK153 BK154 BK155 HB hq_; have BK153 := n0_; have BK154 := n1_; have BK155 := n2_; have HB := n3_; clear n0_ n1_ n2_ n3_; (try (have hcz10_0 := zx_ (v := .int .i64 a0_0) BK153 0)); (try (have hcz10_1 := zx_ (v := .int .u64 a0_1) BK153 1)); (try (have hfz10_0 := blk_frozen BK153.out 0)); (try (have hfz10_1 := blk_frozen BK153.out 1)); (try (have hcz12_0 := zx_ (v := .int .i64 a1_0) BK154 0)); (try (have hcz12_1 := zx_ (v := .int .u64 a1_1) BK154 1)); (try (have hfz12_0 := blk_frozen BK154.out 0)); (try (have hfz12_1 := blk_frozen BK154.out 1)))); have hcz13_0 := zx_ (v := .int .i64 0) BK155 0; have hcz13_1 := zx_ (v := .int .u64 0) BK155 1; have hfz13_0 := blk_frozen BK155.out 0; have hfz13_1 := blk_frozen BK155.out 1))
 refine bodyPost_ret (results_cell_row rfl _ _ gb155 52 #[.int .i64 (wrap64 (t158)), .int .u64 t156] (0, 0) _ rfl (zo2_ BK155) Try.underlying52 rfl (by kernel_rfl)) rfl ?_
 exact ⟨z0_, zw3_ HB GE153 GE154 GE155⟩

/-! ### wide_Of: function 61 -/
def wide_Of.f (a0 : Int) : Option (Int × Int) := some (a0 / 9223372036854775808, IntKind.u64.wrap (a0))
set_option maxHeartbeats 8000000 in
set_option maxRecDepth 100000 in
theorem wide_Of.calls (a0 : Int) (r1 : Int) (r2 : Int) (w : World) (h : wide_Of.f a0 = some (r1, r2)) :
  Calls Try.prog 61 #[.int .i64 a0] w fun e w' => e = .returned (.agg #[.int .i64 r1, .int .u64 r2]) ∧ Below w.heap.size w w' := by
 have hu52 := Try.underlying52
 have HB := Aside0.mk (Below.refl w.heap.size w)
 have H : (some (a0 / 9223372036854775808, IntKind.u64.wrap (a0))) = some (r1, r2) := h
 clear h
 simp only [Option.some.injEq, Prod.mk.injEq] at H
 obtain ⟨rfl, rfl⟩ := H
 go_enter Try.func61, Try.ntmps61
 go_wp2_with (first | ((with_reducible refine gate_dst (N := 2) rfl ?_); refine box_event ?hg (N := 2) ?hd (cs := #[.int .i64 0, .int .u64 0]) (t := 52) ?hr ?_; (case hd => rfl); (case hg => rfl); (case hr => first | (go_simp; done) | (go_simp; rfl)); intro gb160 hg w2 hbox hb; have BK160 := Aside0.mk (hbox); have GW160 := Aside0.mk (zs_ hg (zw0_ HB)); have GE160 := Aside0.mk (zs_ hg (zw0_ HB)); replace HB := Aside0.mk (below_step (zw0_ HB) hb); clear hb hbox hg; have hcz3_0 := zx_ (v := .int .i64 0) BK160 0; have hcz3_1 := zx_ (v := .int .u64 0) BK160 1; have hfz3_0 := blk_frozen BK160.out 0; have hfz3_1 := blk_frozen BK160.out 1))
 refine bodyPost_ret (results_cell_row rfl _ _ gb160 52 #[.int .i64 (a0 / 9223372036854775808), .int .u64 (IntKind.u64.wrap (a0))] (0, 0) _ rfl (zo2_ BK160) Try.underlying52 rfl (by kernel_rfl)) rfl ?_
 exact ⟨z0_, zw1_ HB GE160⟩

end Go.Proofs.Ytcipfhlcgnomaaa.PConvKnown
