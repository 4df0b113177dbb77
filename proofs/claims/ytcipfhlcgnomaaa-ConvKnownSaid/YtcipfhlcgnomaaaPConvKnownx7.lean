/- The functions that the law ConvKnown reaches, as Lean functions, and that each call of the Go function does what its Lean function says, wherever that one answers. Written by a program of mine over the print of the kit; Lean checks it. -/
import Derived.Test.YtcipfhlcgnomaaaPConvKnownx0
import Derived.Test.YtcipfhlcgnomaaaPConvKnownx1
namespace Go.Proofs.Ytcipfhlcgnomaaa.PConvKnown
open Go.RowKit Go.Proofs.YtcipfhlcgnomaaaW.PrintWords Go.Proofs.YtcipfhlcgnomaaaW.PrintLast Go.Proofs.YtcipfhlcgnomaaaW.PrintMore
attribute [local go_sem] max2_int min2_int max_two min_two max_three min_three max_four min_four   -- for this text's walks alone
set_option linter.unusedVariables false
set_option linter.unusedSimpArgs false

/-! ### conv_Pool: function 19 -/
mutual
def conv_Pool.l0 : Nat → Int → Int → Int → List Int → Int → Int → List Int → List Int → List Int → List Int → Option (List Int × List Int × List Int × Int)
 | 0, _, _, _, _, _, _, _, _, _, _ => none
 | k + 1, x1, x7, x8, x11, x60, x61, x241000, x241001, x258000, x258001 => if x61 < x60 then (if x8 = 0 then (none) else (conv_Pool.l1 k x1 x7 x8 x11 x61 (wrap64 ((wrap64 ((wrap64 (Int.tdiv x61 x8)) * x7)) + (wrap64 ((Int.tmod x61 x8) * x1)))) (wrap64 ((wrap64 ((wrap64 ((wrap64 (Int.tdiv x61 x8)) * x7)) + (wrap64 ((Int.tmod x61 x8) * x1)))) + 1)) x60 x61 x241000 x241001 x258000 x258001)) else (some (x258000, x258001, x11, 0))
def conv_Pool.l1 : Nat → Int → Int → Int → List Int → Int → Int → Int → Int → Int → List Int → List Int → List Int → List Int → Option (List Int × List Int × List Int × Int)
 | 0, _, _, _, _, _, _, _, _, _, _, _, _, _ => none
 | k + 1, x1, x7, x8, x11, x12, x13, x14, x60, x61, x241000, x241001, x258000, x258001 => if x8 = 0 then (none) else (if x14 < (wrap64 ((wrap64 ((wrap64 ((wrap64 (Int.tdiv x12 x8)) * x7)) + (wrap64 ((Int.tmod x12 x8) * x1)))) + x1)) then (if 0 ≤ x14 then (if x14 < (x241001.length : Int) then (if 0 ≤ x13 then (if x13 < (x241001.length : Int) then (if (rd x241001 x14) > (rd x241001 x13) then (conv_Pool.l1 k x1 x7 x8 x11 x12 x14 (wrap64 (x14 + 1)) x60 x61 x241000 x241001 x258000 x258001) else (conv_Pool.l1 k x1 x7 x8 x11 x12 x13 (wrap64 (x14 + 1)) x60 x61 x241000 x241001 x258000 x258001)) else (none)) else (none)) else (none)) else (none)) else (if 0 ≤ x13 then (if x13 < (x241001.length : Int) then (if 0 ≤ x12 then (if x12 < (x258001.length : Int) then (if x11.length < 17592186044416 then (conv_Pool.l0 k x1 x7 x8 (x11 ++ [x13]) x60 (wrap64 (x61 + 1)) x241000 x241001 x258000 (x258001.set (x12 : Int).toNat (rd x241001 x13))) else (none)) else (none)) else (none)) else (none)) else (none)))
end
def conv_Pool.f (k : Nat) (l0_0 : List Int) (l0_1 : List Int) (a1 : Int) : Option (List Int × List Int × List Int × Int) := (tens_Good.f k l0_0 l0_1).bind fun t242 => (if t242 = true then (if (l0_0.length : Int) = 2 then (if a1 < 1 then (some (([] : List Int), ([] : List Int), ([] : List Int), 1)) else (if 1 < (l0_0.length : Int) then (if a1 > (rd l0_0 1) then (some (([] : List Int), ([] : List Int), ([] : List Int), 1)) else (if a1 = 0 then (none) else (if 0 < (l0_0.length : Int) then ((conv_of.f k (([rd l0_0 0, wrap64 (Int.tdiv (rd l0_0 1) a1)] : List Int))).bind fun bt250 => (conv_Pool.l0 k a1 (rd l0_0 1) (wrap64 (Int.tdiv (rd l0_0 1) a1)) ([] : List Int) (bt250.2.1.length : Int) 0 l0_0 l0_1 bt250.1 bt250.2.1)) else (none)))) else (none))) else (some (([] : List Int), ([] : List Int), ([] : List Int), 4))) else (some (([] : List Int), ([] : List Int), ([] : List Int), 1)))
theorem conv_Pool.mono_l : ∀ k, (∀ y0 y1 y2 y3 y4 y5 y6 y7 y8 y9, LeO (conv_Pool.l0 k y0 y1 y2 y3 y4 y5 y6 y7 y8 y9) (conv_Pool.l0 (k + 1) y0 y1 y2 y3 y4 y5 y6 y7 y8 y9)) ∧ (∀ y0 y1 y2 y3 y4 y5 y6 y7 y8 y9 y10 y11 y12, LeO (conv_Pool.l1 k y0 y1 y2 y3 y4 y5 y6 y7 y8 y9 y10 y11 y12) (conv_Pool.l1 (k + 1) y0 y1 y2 y3 y4 y5 y6 y7 y8 y9 y10 y11 y12))
 | 0 => ⟨fun _ _ _ _ _ _ _ _ _ _ r h => by simp [conv_Pool.l0] at h, fun _ _ _ _ _ _ _ _ _ _ _ _ _ r h => by simp [conv_Pool.l1] at h⟩
 | k + 1 => by
  obtain ⟨ih0, ih1⟩ := conv_Pool.mono_l k
  refine ⟨?_, ?_⟩
  ·intro y0 y1 y2 y3 y4 y5 y6 y7 y8 y9
   unfold conv_Pool.l0
   repeat' first
   | (with_reducible exact ih0 _ _ _ _ _ _ _ _ _ _)
   | (with_reducible exact ih1 _ _ _ _ _ _ _ _ _ _ _ _ _)
   | (with_reducible exact LeO.refl _)
   | (with_reducible exact LeO.none _)
   | (with_reducible refine LeO.ite ?_ ?_)
   | (with_reducible refine LeO.bind ?_ (fun _ => ?_))
   | exact ih0 _ _ _ _ _ _ _ _ _ _
   | exact ih1 _ _ _ _ _ _ _ _ _ _ _ _ _
   | exact LeO.none _
   | refine LeO.ite ?_ ?_
   | refine LeO.bind ?_ (fun _ => ?_)
  ·intro y0 y1 y2 y3 y4 y5 y6 y7 y8 y9 y10 y11 y12
   unfold conv_Pool.l1
   repeat' first
   | (with_reducible exact ih0 _ _ _ _ _ _ _ _ _ _)
   | (with_reducible exact ih1 _ _ _ _ _ _ _ _ _ _ _ _ _)
   | (with_reducible exact LeO.refl _)
   | (with_reducible exact LeO.none _)
   | (with_reducible refine LeO.ite ?_ ?_)
   | (with_reducible refine LeO.bind ?_ (fun _ => ?_))
   | exact ih0 _ _ _ _ _ _ _ _ _ _
   | exact ih1 _ _ _ _ _ _ _ _ _ _ _ _ _
   | exact LeO.none _
   | refine LeO.ite ?_ ?_
   | refine LeO.bind ?_ (fun _ => ?_)
theorem conv_Pool.mono : ∀ a0 a1 a2 k, LeO (conv_Pool.f k a0 a1 a2) (conv_Pool.f (k + 1) a0 a1 a2) := by
 intro a0 a1 a2 k
 obtain ⟨ih0, ih1⟩ := conv_Pool.mono_l k
 unfold conv_Pool.f
 repeat' first
   | (with_reducible exact ih0 _ _ _ _ _ _ _ _ _ _)
   | (with_reducible exact ih1 _ _ _ _ _ _ _ _ _ _ _ _ _)
   | (with_reducible exact conv_of.mono _ _)
   | (with_reducible exact tens_Good.mono _ _ _)
   | (with_reducible exact LeO.refl _)
   | (with_reducible exact LeO.none _)
   | (with_reducible refine LeO.ite ?_ ?_)
   | (with_reducible refine LeO.bind ?_ (fun _ => ?_))
   | exact ih0 _ _ _ _ _ _ _ _ _ _
   | exact ih1 _ _ _ _ _ _ _ _ _ _ _ _ _
   | exact conv_of.mono _ _
   | exact tens_Good.mono _ _ _
   | exact LeO.none _
   | refine LeO.ite ?_ ?_
   | refine LeO.bind ?_ (fun _ => ?_)
def conv_Pool.T7 : Bool × List (List Nat × List Nat) := (true, [([], []), ([0], [0]), ([1], [1]), ([2], [2]), ([], []), ([4], [4]), ([5], [5]), ([6], [6]), ([], []), ([7, 8], [7, 8]), ([3, 0, 1, 2, 3], [3]), ([9, 10, 0, 1, 2, 3, 4, 5, 6, 7, 8, 9, 10], [9])])
def conv_Pool.B7 : List Nat := [0, 1, 3, 7, 0, 16, 48, 112, 0, 496, 15, 2047]
theorem conv_Pool.tab7 : rtab .any (opsOf Try.f19 7) = conv_Pool.T7 := by kernel_rfl
theorem conv_Pool.bits7 : waitsOk conv_Pool.T7.2 conv_Pool.B7 = true := by kernel_rfl
def conv_Pool.T13 : Bool × List (List Nat × List Nat) := (true, [([], []), ([], []), ([0, 1], [0, 1]), ([], []), ([2, 3], [2, 3]), ([], []), ([], []), ([5, 6], [5, 6]), ([], []), ([7, 8], [7, 8]), ([4, 9], [4, 9]), ([10, 0, 1, 2, 3, 4, 5, 6, 7, 8, 9, 10], [10])])
def conv_Pool.B13 : List Nat := [0, 0, 3, 0, 15, 0, 0, 96, 0, 480, 1023, 2047]
theorem conv_Pool.tab13 : rtab .any (opsOf Try.f19 13) = conv_Pool.T13 := by kernel_rfl
theorem conv_Pool.bits13 : waitsOk conv_Pool.T13.2 conv_Pool.B13 = true := by kernel_rfl
def conv_Pool.T15 : Bool × List (List Nat × List Nat) := (true, [([], []), ([], []), ([], []), ([1, 2], [1, 2]), ([], []), ([3, 4], [3, 4]), ([], []), ([], []), ([6, 7], [6, 7]), ([], []), ([8, 9], [8, 9]), ([5, 10], [5, 10]), ([], []), ([11, 12], [11, 12]), ([0, 13], [0, 13])])
def conv_Pool.B15 : List Nat := [0, 0, 0, 6, 0, 30, 0, 0, 192, 0, 960, 2046, 0, 8190, 16383]
theorem conv_Pool.tab15 : rtab .any (opsOf Try.f19 15) = conv_Pool.T15 := by kernel_rfl
theorem conv_Pool.bits15 : waitsOk conv_Pool.T15.2 conv_Pool.B15 = true := by kernel_rfl
def conv_Pool.T17 : Bool × List (List Nat × List Nat) := (true, [([], []), ([0], [0]), ([], []), ([1, 2], [1, 2]), ([3], [3]), ([], []), ([5], [5]), ([], []), ([6, 7], [6, 7]), ([8], [8]), ([4, 9], [4, 9])])
def conv_Pool.B17 : List Nat := [0, 1, 0, 7, 15, 0, 32, 0, 224, 480, 1023]
theorem conv_Pool.tab17 : rtab .any (opsOf Try.f19 17) = conv_Pool.T17 := by kernel_rfl
theorem conv_Pool.bits17 : waitsOk conv_Pool.T17.2 conv_Pool.B17 = true := by kernel_rfl
def conv_Pool.T19 : Bool × List (List Nat × List Nat) := (true, [([], []), ([0], [0]), ([], []), ([], []), ([3], [3]), ([], []), ([4, 5], [4, 5]), ([6], [6]), ([1, 2, 0, 1, 2, 3, 4, 5, 6, 7], [1, 2]), ([8, 7, 0, 1, 2, 3, 4, 5, 6, 7], [7, 8])])
def conv_Pool.B19 : List Nat := [0, 1, 0, 0, 8, 0, 56, 120, 255, 511]
theorem conv_Pool.tab19 : rtab .any (opsOf Try.f19 19) = conv_Pool.T19 := by kernel_rfl
theorem conv_Pool.bits19 : waitsOk conv_Pool.T19.2 conv_Pool.B19 = true := by kernel_rfl
set_option maxHeartbeats 8000000 in
set_option maxRecDepth 100000 in
theorem conv_Pool.calls (k : Nat) (A0_0 : Option Addr) (c0_0 : Nat) (l0_0 : List Int) (A0_1 : Option Addr) (c0_1 : Nat) (l0_1 : List Int) (a1 : Int) (r1 : List Int) (r2 : List Int) (r3 : List Int) (r4 : Int) (w : World) (hr0_0 : Kd.C (Kd.int .i64) w A0_0 l0_0.length l0_0) (hc0_0 : l0_0.length ≤ c0_0) (hr0_1 : Kd.C (Kd.int .i64) w A0_1 l0_1.length l0_1) (hc0_1 : l0_1.length ≤ c0_1) (h : conv_Pool.f k l0_0 l0_1 a1 = some (r1, r2, r3, r4)) :
  Calls Try.prog 19 #[.agg #[.slice A0_0 l0_0.length c0_0, .slice A0_1 l0_1.length c0_1], .int .i64 a1] w fun e w' => ∃ v0_ v1_ v2_ : Value, e = .returned (.tuple #[.agg #[v0_, v1_], v2_, .int .i64 r4]) ∧ Kd.R (Kd.int .i64) 3 w' w.heap.size (fun k_ => some k_ ≠ (v2_ : Value).ownBlock) v0_ r1 ∧ Kd.R (Kd.int .i64) 33 w' w.heap.size (fun _ => True) v1_ r2 ∧ Kd.R (Kd.int .i64) 3 w' w.heap.size (fun k_ => some k_ ≠ (v0_ : Value).ownBlock) v2_ r3 ∧ Below w.heap.size w w' := by
 have hu25 := Try.underlying25
 have HR0_0 := Aside0.mk hr0_0
 have HC0_0 := Aside0.mk hc0_0
 clear hr0_0 hc0_0
 have HR0_1 := Aside0.mk hr0_1
 have HC0_1 := Aside0.mk hc0_1
 clear hr0_1 hc0_1
 have HB := Aside0.mk (Below.refl w.heap.size w)
 have H : ((tens_Good.f k l0_0 l0_1).bind fun t242 => (if t242 = true then (if (l0_0.length : Int) = 2 then (if a1 < 1 then (some (([] : List Int), ([] : List Int), ([] : List Int), 1)) else (if 1 < (l0_0.length : Int) then (if a1 > (rd l0_0 1) then (some (([] : List Int), ([] : List Int), ([] : List Int), 1)) else (if a1 = 0 then (none) else (if 0 < (l0_0.length : Int) then ((conv_of.f k (([rd l0_0 0, wrap64 (Int.tdiv (rd l0_0 1) a1)] : List Int))).bind fun bt250 => (conv_Pool.l0 k a1 (rd l0_0 1) (wrap64 (Int.tdiv (rd l0_0 1) a1)) ([] : List Int) (bt250.2.1.length : Int) 0 l0_0 l0_1 bt250.1 bt250.2.1)) else (none)))) else (none))) else (some (([] : List Int), ([] : List Int), ([] : List Int), 4))) else (some (([] : List Int), ([] : List Int), ([] : List Int), 1)))) = some (r1, r2, r3, r4) := h
 clear h
 replace H := Option.bind_eq_some_iff.mp H
 obtain ⟨t242, A30, H⟩ := H
 (try dsimp only at H)
 have A3 := Aside0.mk A30
 clear A30
 by_cases c4 : t242 = true
 rotate_left
 ·replace c4 := Bool.eq_false_iff.mpr c4
  subst c4
  have H1 := H
  rw [if_neg (show ¬ (false = true) by decide)] at H1
  clear H
  have H := H1
  clear H1
  simp only [Option.some.injEq, Prod.mk.injEq] at H
  obtain ⟨rfl, rfl, rfl, rfl⟩ := H
  go_enter Try.func19, Try.ntmps19
  go_wp2_with (first | ((with_reducible refine gate_dst (N := 2) rfl ?_); refine box_event ?hg (N := 2) ?hd (cs := #[.slice A0_0 l0_0.length c0_0, .slice A0_1 l0_1.length c0_1]) (t := 25) ?hr ?_; (case hd => rfl); (case hg => rfl); (case hr => first | (go_simp; done) | (go_simp; rfl)); intro gb240 hg w81 hbox hb; have BK240 := Aside0.mk (hbox); have GW240 := Aside0.mk (zs_ hg (zw0_ HB)); have GE240 := Aside0.mk (zs_ hg (zw0_ HB)); replace HB := Aside0.mk (below_step (zw0_ HB) hb); clear hb hbox hg) | ((with_reducible refine gate_dst (N := 4) rfl ?_); refine box_event ?hg (N := 4) ?hd (cs := #[.slice none 0 0, .slice none 0 0]) (t := 25) ?hr ?_; (case hd => rfl); (case hg => rfl); (case hr => first | (go_simp; done) | (go_simp; rfl)); intro gb241 hg w82 hbox hb; have BK241 := Aside0.mk (hbox); have GW241 := Aside0.mk (zs_ hg (zw1_ HB GE240)); have GE241 := Aside0.mk (zs_ hg (zw1_ HB GE240)); replace HB := Aside0.mk (below_step (zw1_ HB GE240) hb); have NB240_241 := Aside0.mk (zn_ hg BK240); have NB241_240 := Aside0.mk (zm_ hg BK240); replace BK240 := za_ BK240 hb; clear hb hbox hg; have hnb83 := NB240_241.out; have hnc83 := NB241_240.out; have hcz84_0 := zx_ (v := .slice A0_0 l0_0.length c0_0) BK240 0; have hcz84_1 := zx_ (v := .slice A0_1 l0_1.length c0_1) BK240 1; have hfz84_0 := blk_frozen BK240.out 0; have hfz84_1 := blk_frozen BK240.out 1) | ((with_reducible refine gate_callee (f := 26) rfl ?_); refine zg_ (some 17) Try.func26 #[.agg #[.slice A0_0 l0_0.length c0_0, .slice A0_1 l0_1.length c0_1]] (h := ?_); (with_reducible refine (tens_Good.calls k _ _ l0_0 _ _ l0_1 false _ ?side1 ?side2 ?side3 ?side4 A3.out).mono ?_); (case side1 => exact zk_ (Kd.C_below HR0_0.out HB.out)); (case side2 => exact HC0_0.out); (case side3 => exact zk_ (Kd.C_below HR0_1.out HB.out)); (case side4 => exact HC0_1.out); rintro e w85 ⟨rfl, hb⟩; refine ⟨_, rfl, ?_⟩; replace BK240 := za_ BK240 hb; replace BK241 := za_ BK241 hb; replace HB := Aside0.mk (below_step (zw2_ HB GE240 GE241) hb); (try clear hb); have hcz86_0 := zx_ (v := .slice none 0 0) BK241 0; have hcz86_1 := zx_ (v := .slice none 0 0) BK241 1; have hfz86_0 := blk_frozen BK241.out 0; have hfz86_1 := blk_frozen BK241.out 1))
  refine bodyPost_ret (results_ctt rfl _ _ gb241 25 #[.slice none 0 0, .slice none 0 0] (0, 0) _ rfl (zo2_ BK241) Try.underlying25 rfl (by kernel_rfl)) rfl ?_
  exact ⟨_, _, _, z0_, z2_, z2_, z2_, zw2_ HB GE240 GE241⟩
 subst c4
 have H1 := H
 rw [if_pos rfl] at H1
 clear H
 have H := H1
 clear H1
 by_cases c5 : (l0_0.length : Int) = 2
 rotate_left
 ·rw [if_neg c5] at H
  have c5b0 : ((l0_0.length : Int) == 2) = false := beq_eq_false_iff_ne.mpr c5
  have c5b1 : ((l0_0.length : Int) != 2) = true := bne_iff_ne.mpr c5
  simp only [Option.some.injEq, Prod.mk.injEq] at H
  obtain ⟨rfl, rfl, rfl, rfl⟩ := H
  go_enter Try.func19, Try.ntmps19
  go_wp2_with (first | ((with_reducible refine gate_dst (N := 2) rfl ?_); refine box_event ?hg (N := 2) ?hd (cs := #[.slice A0_0 l0_0.length c0_0, .slice A0_1 l0_1.length c0_1]) (t := 25) ?hr ?_; (case hd => rfl); (case hg => rfl); (case hr => first | (go_simp; done) | (go_simp; rfl)); intro gb240 hg w74 hbox hb; have BK240 := Aside0.mk (hbox); have GW240 := Aside0.mk (zs_ hg (zw0_ HB)); have GE240 := Aside0.mk (zs_ hg (zw0_ HB)); replace HB := Aside0.mk (below_step (zw0_ HB) hb); clear hb hbox hg) | ((with_reducible refine gate_dst (N := 4) rfl ?_); refine box_event ?hg (N := 4) ?hd (cs := #[.slice none 0 0, .slice none 0 0]) (t := 25) ?hr ?_; (case hd => rfl); (case hg => rfl); (case hr => first | (go_simp; done) | (go_simp; rfl)); intro gb241 hg w75 hbox hb; have BK241 := Aside0.mk (hbox); have GW241 := Aside0.mk (zs_ hg (zw1_ HB GE240)); have GE241 := Aside0.mk (zs_ hg (zw1_ HB GE240)); replace HB := Aside0.mk (below_step (zw1_ HB GE240) hb); have NB240_241 := Aside0.mk (zn_ hg BK240); have NB241_240 := Aside0.mk (zm_ hg BK240); replace BK240 := za_ BK240 hb; clear hb hbox hg; have hnb76 := NB240_241.out; have hnc76 := NB241_240.out; have hcz77_0 := zx_ (v := .slice A0_0 l0_0.length c0_0) BK240 0; have hcz77_1 := zx_ (v := .slice A0_1 l0_1.length c0_1) BK240 1; have hfz77_0 := blk_frozen BK240.out 0; have hfz77_1 := blk_frozen BK240.out 1) | ((with_reducible refine gate_callee (f := 26) rfl ?_); refine zg_ (some 17) Try.func26 #[.agg #[.slice A0_0 l0_0.length c0_0, .slice A0_1 l0_1.length c0_1]] (h := ?_); (with_reducible refine (tens_Good.calls k _ _ l0_0 _ _ l0_1 true _ ?side1 ?side2 ?side3 ?side4 A3.out).mono ?_); (case side1 => exact zk_ (Kd.C_below HR0_0.out HB.out)); (case side2 => exact HC0_0.out); (case side3 => exact zk_ (Kd.C_below HR0_1.out HB.out)); (case side4 => exact HC0_1.out); rintro e w78 ⟨rfl, hb⟩; refine ⟨_, rfl, ?_⟩; replace BK240 := za_ BK240 hb; replace BK241 := za_ BK241 hb; replace HB := Aside0.mk (below_step (zw2_ HB GE240 GE241) hb); (try clear hb); have hcz79_0 := zx_ (v := .slice A0_0 l0_0.length c0_0) BK240 0; have hcz79_1 := zx_ (v := .slice A0_1 l0_1.length c0_1) BK240 1; have hfz79_0 := blk_frozen BK240.out 0; have hfz79_1 := blk_frozen BK240.out 1; have hcz80_0 := zx_ (v := .slice none 0 0) BK241 0; have hcz80_1 := zx_ (v := .slice none 0 0) BK241 1; have hfz80_0 := blk_frozen BK241.out 0; have hfz80_1 := blk_frozen BK241.out 1))
  refine bodyPost_ret (results_ctt rfl _ _ gb241 25 #[.slice none 0 0, .slice none 0 0] (0, 0) _ rfl (zo2_ BK241) Try.underlying25 rfl (by kernel_rfl)) rfl ?_
  exact ⟨_, _, _, z0_, z2_, z2_, z2_, zw2_ HB GE240 GE241⟩
 rw [if_pos c5] at H
 have c5b0 : ((l0_0.length : Int) == 2) = true := beq_iff_eq.mpr c5
 have c5b1 : ((l0_0.length : Int) != 2) = false := bne_eq_false_iff_eq.mpr c5
 clear c5
 by_cases c6 : a1 < 1
 ·rw [if_pos c6] at H
  have c6b0 : decide (a1 < 1) = true := decide_eq_true c6
  clear c6
  simp only [Option.some.injEq, Prod.mk.injEq] at H
  obtain ⟨rfl, rfl, rfl, rfl⟩ := H
  go_enter Try.func19, Try.ntmps19
  go_wp2_with (first | ((with_reducible refine gate_dst (N := 2) rfl ?_); refine box_event ?hg (N := 2) ?hd (cs := #[.slice A0_0 l0_0.length c0_0, .slice A0_1 l0_1.length c0_1]) (t := 25) ?hr ?_; (case hd => rfl); (case hg => rfl); (case hr => first | (go_simp; done) | (go_simp; rfl)); intro gb240 hg w7 hbox hb; have BK240 := Aside0.mk (hbox); have GW240 := Aside0.mk (zs_ hg (zw0_ HB)); have GE240 := Aside0.mk (zs_ hg (zw0_ HB)); replace HB := Aside0.mk (below_step (zw0_ HB) hb); clear hb hbox hg) | ((with_reducible refine gate_dst (N := 4) rfl ?_); refine box_event ?hg (N := 4) ?hd (cs := #[.slice none 0 0, .slice none 0 0]) (t := 25) ?hr ?_; (case hd => rfl); (case hg => rfl); (case hr => first | (go_simp; done) | (go_simp; rfl)); intro gb241 hg w8 hbox hb; have BK241 := Aside0.mk (hbox); have GW241 := Aside0.mk (zs_ hg (zw1_ HB GE240)); have GE241 := Aside0.mk (zs_ hg (zw1_ HB GE240)); replace HB := Aside0.mk (below_step (zw1_ HB GE240) hb); have NB240_241 := Aside0.mk (zn_ hg BK240); have NB241_240 := Aside0.mk (zm_ hg BK240); replace BK240 := za_ BK240 hb; clear hb hbox hg; have hnb9 := NB240_241.out; have hnc9 := NB241_240.out; have hcz10_0 := zx_ (v := .slice A0_0 l0_0.length c0_0) BK240 0; have hcz10_1 := zx_ (v := .slice A0_1 l0_1.length c0_1) BK240 1; have hfz10_0 := blk_frozen BK240.out 0; have hfz10_1 := blk_frozen BK240.out 1) | ((with_reducible refine gate_callee (f := 26) rfl ?_); refine zg_ (some 17) Try.func26 #[.agg #[.slice A0_0 l0_0.length c0_0, .slice A0_1 l0_1.length c0_1]] (h := ?_); (with_reducible refine (tens_Good.calls k _ _ l0_0 _ _ l0_1 true _ ?side1 ?side2 ?side3 ?side4 A3.out).mono ?_); (case side1 => exact zk_ (Kd.C_below HR0_0.out HB.out)); (case side2 => exact HC0_0.out); (case side3 => exact zk_ (Kd.C_below HR0_1.out HB.out)); (case side4 => exact HC0_1.out); rintro e w11 ⟨rfl, hb⟩; refine ⟨_, rfl, ?_⟩; replace BK240 := za_ BK240 hb; replace BK241 := za_ BK241 hb; replace HB := Aside0.mk (below_step (zw2_ HB GE240 GE241) hb); (try clear hb); have hcz12_0 := zx_ (v := .slice A0_0 l0_0.length c0_0) BK240 0; have hcz12_1 := zx_ (v := .slice A0_1 l0_1.length c0_1) BK240 1; have hfz12_0 := blk_frozen BK240.out 0; have hfz12_1 := blk_frozen BK240.out 1; have hcz13_0 := zx_ (v := .slice none 0 0) BK241 0; have hcz13_1 := zx_ (v := .slice none 0 0) BK241 1; have hfz13_0 := blk_frozen BK241.out 0; have hfz13_1 := blk_frozen BK241.out 1))
  refine bodyPost_ret (results_ctt rfl _ _ gb241 25 #[.slice none 0 0, .slice none 0 0] (0, 0) _ rfl (zo2_ BK241) Try.underlying25 rfl (by kernel_rfl)) rfl ?_
  exact ⟨_, _, _, z0_, z2_, z2_, z2_, zw2_ HB GE240 GE241⟩
 rw [if_neg c6] at H
 have c6b0 : decide (a1 < 1) = false := decide_eq_false c6
 clear c6
 by_cases c14 : 1 < (l0_0.length : Int)
 rotate_left
 ·rw [if_neg c14] at H
  exact absurd H (by simp)
 rw [if_pos c14] at H
 have c14b0 : decide (1 < (l0_0.length : Int)) = true := decide_eq_true c14
 have c14b1 : decide (1 < l0_0.length) = true := decide_eq_true (by omega)
 clear c14
 by_cases c15 : a1 > (rd l0_0 1)
 ·rw [if_pos c15] at H
  have c15b0 : decide ((rd l0_0 1) < a1) = true := decide_eq_true c15
  clear c15
  simp only [Option.some.injEq, Prod.mk.injEq] at H
  obtain ⟨rfl, rfl, rfl, rfl⟩ := H
  go_enter Try.func19, Try.ntmps19
  go_wp2_with (first | ((with_reducible refine gate_dst (N := 2) rfl ?_); refine box_event ?hg (N := 2) ?hd (cs := #[.slice A0_0 l0_0.length c0_0, .slice A0_1 l0_1.length c0_1]) (t := 25) ?hr ?_; (case hd => rfl); (case hg => rfl); (case hr => first | (go_simp; done) | (go_simp; rfl)); intro gb240 hg w16 hbox hb; have BK240 := Aside0.mk (hbox); have GW240 := Aside0.mk (zs_ hg (zw0_ HB)); have GE240 := Aside0.mk (zs_ hg (zw0_ HB)); replace HB := Aside0.mk (below_step (zw0_ HB) hb); clear hb hbox hg) | ((with_reducible refine gate_dst (N := 4) rfl ?_); refine box_event ?hg (N := 4) ?hd (cs := #[.slice none 0 0, .slice none 0 0]) (t := 25) ?hr ?_; (case hd => rfl); (case hg => rfl); (case hr => first | (go_simp; done) | (go_simp; rfl)); intro gb241 hg w17 hbox hb; have BK241 := Aside0.mk (hbox); have GW241 := Aside0.mk (zs_ hg (zw1_ HB GE240)); have GE241 := Aside0.mk (zs_ hg (zw1_ HB GE240)); replace HB := Aside0.mk (below_step (zw1_ HB GE240) hb); have NB240_241 := Aside0.mk (zn_ hg BK240); have NB241_240 := Aside0.mk (zm_ hg BK240); replace BK240 := za_ BK240 hb; clear hb hbox hg; have hnb18 := NB240_241.out; have hnc18 := NB241_240.out; have hcz19_0 := zx_ (v := .slice A0_0 l0_0.length c0_0) BK240 0; have hcz19_1 := zx_ (v := .slice A0_1 l0_1.length c0_1) BK240 1; have hfz19_0 := blk_frozen BK240.out 0; have hfz19_1 := blk_frozen BK240.out 1) | ((with_reducible refine gate_callee (f := 26) rfl ?_); refine zg_ (some 17) Try.func26 #[.agg #[.slice A0_0 l0_0.length c0_0, .slice A0_1 l0_1.length c0_1]] (h := ?_); (with_reducible refine (tens_Good.calls k _ _ l0_0 _ _ l0_1 true _ ?side1 ?side2 ?side3 ?side4 A3.out).mono ?_); (case side1 => exact zk_ (Kd.C_below HR0_0.out HB.out)); (case side2 => exact HC0_0.out); (case side3 => exact zk_ (Kd.C_below HR0_1.out HB.out)); (case side4 => exact HC0_1.out); rintro e w20 ⟨rfl, hb⟩; refine ⟨_, rfl, ?_⟩; replace BK240 := za_ BK240 hb; replace BK241 := za_ BK241 hb; replace HB := Aside0.mk (below_step (zw2_ HB GE240 GE241) hb); (try clear hb); have hcz21_0 := zx_ (v := .slice A0_0 l0_0.length c0_0) BK240 0; have hcz21_1 := zx_ (v := .slice A0_1 l0_1.length c0_1) BK240 1; have hfz21_0 := blk_frozen BK240.out 0; have hfz21_1 := blk_frozen BK240.out 1; have p243 : 0 ≤ (1 : Int) := (by omega); have q243 : 1 < (l0_0.length : Int) := of_decide_eq_true (by first | (with_reducible assumption) | assumption); obtain ⟨ad243, e243, hx243_0⟩ := Kd.at_int HR0_0.out 1 p243 q243; cases e243; (try simp only [show (1 : Int).toNat = 1 from rfl, Nat.reduceMul, Nat.reduceEqDiff, Go.Addr.add, ↓reduceIte] at hx243_0); have qi243 : (1 < l0_0.length) = True := eq_true (by omega); (try rw [show ((1 : Int)).toNat = 1 from rfl] at hx243_0); replace hx243_0 := (HB.out.cell (World.block_lt_of_cell? w _ hx243_0)).trans hx243_0; replace p243 := eq_true p243; replace q243 := eq_true q243; have hcz22_0 := zx_ (v := .slice none 0 0) BK241 0; have hcz22_1 := zx_ (v := .slice none 0 0) BK241 1; have hfz22_0 := blk_frozen BK241.out 0; have hfz22_1 := blk_frozen BK241.out 1))
  refine bodyPost_ret (results_ctt rfl _ _ gb241 25 #[.slice none 0 0, .slice none 0 0] (0, 0) _ rfl (zo2_ BK241) Try.underlying25 rfl (by kernel_rfl)) rfl ?_
  exact ⟨_, _, _, z0_, z2_, z2_, z2_, zw2_ HB GE240 GE241⟩
 rw [if_neg c15] at H
 have c15b0 : decide ((rd l0_0 1) < a1) = false := decide_eq_false c15
 clear c15
 by_cases c23 : a1 = 0
 ·rw [if_pos c23] at H
  exact absurd H (by simp)
 rw [if_neg c23] at H
 have c23b0 : (a1 == 0) = false := beq_eq_false_iff_ne.mpr c23
 have c23b1 : (a1 != 0) = true := bne_iff_ne.mpr c23
 by_cases c24 : 0 < (l0_0.length : Int)
 rotate_left
 ·rw [if_neg c24] at H
  exact absurd H (by simp)
 rw [if_pos c24] at H
 have c24b0 : decide (0 < (l0_0.length : Int)) = true := decide_eq_true c24
 have c24b1 : decide (0 < l0_0.length) = true := decide_eq_true (by omega)
 clear c24
 obtain ⟨y247, hy247⟩ : ∃ y_ : List Int, y_ = (([rd l0_0 0, wrap64 (Int.tdiv (rd l0_0 1) a1)] : List Int)) := ⟨_, rfl⟩
 replace H : ((conv_of.f k y247).bind fun bt250 => (conv_Pool.l0 k a1 (rd l0_0 1) (wrap64 (Int.tdiv (rd l0_0 1) a1)) ([] : List Int) (bt250.2.1.length : Int) 0 l0_0 l0_1 bt250.1 bt250.2.1)) = some (r1, r2, r3, r4) := by first | (rw [hy247]; with_reducible exact H) | (have H2_ := (Option.bind_some _ _).symm.trans H; rw [hy247]; with_reducible exact H2_) | (have H2_ := (Option.bind_some _ _).symm.trans H; with_reducible exact H2_) | with_reducible exact H | (rw [hy247]; exact H) | exact H
 have Ny247 := Aside0.mk hy247
 clear hy247
 replace H := Option.bind_eq_some_iff.mp H
 obtain ⟨⟨t250, t253, t256⟩, A250, H⟩ := H
 (try dsimp only at H)
 have A25 := Aside0.mk A250
 clear A250
 have H' := Aside0.mk H
 clear H
 go_enter Try.func19, Try.ntmps19
 try go_wp2_with (first | ((with_reducible refine gate_dst (N := 2) rfl ?_); refine box_event ?hg (N := 2) ?hd (cs := #[.slice A0_0 l0_0.length c0_0, .slice A0_1 l0_1.length c0_1]) (t := 25) ?hr ?_; (case hd => rfl); (case hg => rfl); (case hr => first | (go_simp; done) | (go_simp; rfl)); intro gb240 hg w26 hbox hb; have BK240 := Aside0.mk (hbox); have GW240 := Aside0.mk (zs_ hg (zw0_ HB)); have GE240 := Aside0.mk (zs_ hg (zw0_ HB)); replace HB := Aside0.mk (below_step (zw0_ HB) hb); clear hb hbox hg) | ((with_reducible refine gate_dst (N := 4) rfl ?_); refine box_event ?hg (N := 4) ?hd (cs := #[.slice none 0 0, .slice none 0 0]) (t := 25) ?hr ?_; (case hd => rfl); (case hg => rfl); (case hr => first | (go_simp; done) | (go_simp; rfl)); intro gb241 hg w27 hbox hb; have BK241 := Aside0.mk (hbox); have GW241 := Aside0.mk (zs_ hg (zw1_ HB GE240)); have GE241 := Aside0.mk (zs_ hg (zw1_ HB GE240)); replace HB := Aside0.mk (below_step (zw1_ HB GE240) hb); have NB240_241 := Aside0.mk (zn_ hg BK240); have NB241_240 := Aside0.mk (zm_ hg BK240); replace BK240 := za_ BK240 hb; clear hb hbox hg; have hnb28 := NB240_241.out; have hnc28 := NB241_240.out; have hcz29_0 := zx_ (v := .slice A0_0 l0_0.length c0_0) BK240 0; have hcz29_1 := zx_ (v := .slice A0_1 l0_1.length c0_1) BK240 1; have hfz29_0 := blk_frozen BK240.out 0; have hfz29_1 := blk_frozen BK240.out 1) | ((with_reducible refine gate_callee (f := 26) rfl ?_); refine zg_ (some 17) Try.func26 #[.agg #[.slice A0_0 l0_0.length c0_0, .slice A0_1 l0_1.length c0_1]] (h := ?_); (with_reducible refine (tens_Good.calls k _ _ l0_0 _ _ l0_1 true _ ?side1 ?side2 ?side3 ?side4 A3.out).mono ?_); (case side1 => exact zk_ (Kd.C_below HR0_0.out HB.out)); (case side2 => exact HC0_0.out); (case side3 => exact zk_ (Kd.C_below HR0_1.out HB.out)); (case side4 => exact HC0_1.out); rintro e w30 ⟨rfl, hb⟩; refine ⟨_, rfl, ?_⟩; replace BK240 := za_ BK240 hb; replace BK241 := za_ BK241 hb; replace HB := Aside0.mk (below_step (zw2_ HB GE240 GE241) hb); (try clear hb); have hcz31_0 := zx_ (v := .slice A0_0 l0_0.length c0_0) BK240 0; have hcz31_1 := zx_ (v := .slice A0_1 l0_1.length c0_1) BK240 1; have hfz31_0 := blk_frozen BK240.out 0; have hfz31_1 := blk_frozen BK240.out 1; have p243 : 0 ≤ (1 : Int) := (by omega); have q243 : 1 < (l0_0.length : Int) := of_decide_eq_true (by first | (with_reducible assumption) | assumption); obtain ⟨ad243, e243, hx243_0⟩ := Kd.at_int HR0_0.out 1 p243 q243; cases e243; (try simp only [show (1 : Int).toNat = 1 from rfl, Nat.reduceMul, Nat.reduceEqDiff, Go.Addr.add, ↓reduceIte] at hx243_0); have qi243 : (1 < l0_0.length) = True := eq_true (by omega); (try rw [show ((1 : Int)).toNat = 1 from rfl] at hx243_0); replace hx243_0 := (HB.out.cell (World.block_lt_of_cell? w _ hx243_0)).trans hx243_0; replace p243 := eq_true p243; replace q243 := eq_true q243))
 replace BK240 := Aside0.mk (blk_drew BK240.out)
 replace BK241 := Aside0.mk (blk_drew BK241.out)
 replace HB := Aside0.mk (below_drew1 HB.out)
 have p244 : 0 ≤ (1 : Int) := (by omega)
 have q244 : 1 < (l0_0.length : Int) := of_decide_eq_true (by first | (with_reducible assumption) | assumption)
 obtain ⟨ad244, e244, hx244_0⟩ := Kd.at_int HR0_0.out 1 p244 q244
 have hw244_0 := hx244_0
 (try rw [show ((1 : Int)).toNat = 1 from rfl] at hw244_0)
 (try rw [show 1 * 1 = 1 from rfl] at hw244_0)
 (try simp only [Nat.reduceMul, Nat.reduceEqDiff, Go.Addr.add, ↓reduceIte] at hw244_0)
 obtain rfl : ad243 = ad244 := (by injection e244)
 (try simp only [show (1 : Int).toNat = 1 from rfl, Nat.reduceMul, Nat.reduceEqDiff, Go.Addr.add, ↓reduceIte] at hx244_0)
 have qi244 : (1 < l0_0.length) = True := eq_true (by omega)
 (try rw [show ((1 : Int)).toNat = 1 from rfl] at hx244_0)
 replace hx244_0 := (HB.out.cell (World.block_lt_of_cell? w _ hx244_0)).trans hx244_0
 replace p244 := eq_true p244
 replace q244 := eq_true q244
 have p245 : 0 ≤ (1 : Int) := (by omega)
 have q245 : 1 < (l0_0.length : Int) := of_decide_eq_true (by first | (with_reducible assumption) | assumption)
 obtain ⟨ad245, e245, hx245_0⟩ := Kd.at_int HR0_0.out 1 p245 q245
 have hw245_0 := hx245_0
 (try rw [show ((1 : Int)).toNat = 1 from rfl] at hw245_0)
 (try rw [show 1 * 1 = 1 from rfl] at hw245_0)
 (try simp only [Nat.reduceMul, Nat.reduceEqDiff, Go.Addr.add, ↓reduceIte] at hw245_0)
 obtain rfl : ad243 = ad245 := (by injection e245)
 (try simp only [show (1 : Int).toNat = 1 from rfl, Nat.reduceMul, Nat.reduceEqDiff, Go.Addr.add, ↓reduceIte] at hx245_0)
 have qi245 : (1 < l0_0.length) = True := eq_true (by omega)
 (try rw [show ((1 : Int)).toNat = 1 from rfl] at hx245_0)
 replace hx245_0 := (HB.out.cell (World.block_lt_of_cell? w _ hx245_0)).trans hx245_0
 replace p245 := eq_true p245
 replace q245 := eq_true q245
 refine start_ (n := 12) (S := fun w' => w'.cell? ⟨gb240, 0, none⟩ = some (.slice (some ad243) l0_0.length c0_0) ∧ w'.cell? ⟨gb240, 1, none⟩ = some (.slice A0_1 l0_1.length c0_1) ∧ w'.cell? ⟨ad243.block, ad243.off + 1, none⟩ = some (.int .i64 (rd l0_0 1)) ∧ w'.cell? ⟨ad243.block, ad243.off + 1, none⟩ = some (.int .i64 (rd l0_0 1))) (ds := []) #[false, false, false, false, false, false, false, false, false, false, false, false] (by kernel_rfl) rfl rfl ⟨(blk_cell BK240.out 0).trans rfl, (blk_cell BK240.out 1).trans rfl, ((HB.out.cell (World.block_lt_of_cell? w _ hw244_0)).trans hw244_0), ((HB.out.cell (World.block_lt_of_cell? w _ hw245_0)).trans hw245_0)⟩ (fun hHeld => ?_); refine with_tabW conv_Pool.tab7 conv_Pool.bits7 (fun HT_ HW_ => ?_)
 generalize w30.drew = w32 at BK240 BK241 HB hx244_0 hx245_0 hHeld ⊢
 refine yp_ ?_ 0 38
 refine yp_ ?_ 4 42
 refine yp_ ?_ 8 46
 refine yt4_ ?_ 1 39
 refine yp_ ?_ 2 40
 refine yt4_ ?_ 3 41
 refine yp_ ?_ 10 7
 refine yt4_ ?_ 5 43
 refine yp_ ?_ 6 44
 refine yt4_ ?_ 7 45
 refine yp_ ?_ 9 47
 refine yp_ ?_ 11 8
 refine done_ (done_of HT_.out (by kernel_rfl)) ?_
 have hcz33_0 := zx_ (v := .slice (some ad243) l0_0.length c0_0) BK240 0
 have hcz33_1 := zx_ (v := .slice A0_1 l0_1.length c0_1) BK240 1
 have hfz33_0 := blk_frozen BK240.out 0
 have hfz33_1 := blk_frozen BK240.out 1
 have p246 : 0 ≤ (0 : Int) := (by omega)
 have q246 : 0 < (l0_0.length : Int) := of_decide_eq_true (by first | (with_reducible assumption) | assumption)
 obtain ⟨ad246, e246, hx246_0⟩ := Kd.at_int HR0_0.out 0 p246 q246
 obtain rfl : ad243 = ad246 := (by injection e246)
 have qi246 : (0 < l0_0.length) = True := eq_true (by omega)
 (try rw [show ((0 : Int)).toNat = 0 from rfl] at hx246_0)
 (try rw [Addr.add_zero'] at hx246_0)
 replace hx246_0 := (HB.out.cell (World.block_lt_of_cell? w _ hx246_0)).trans hx246_0
 replace p246 := eq_true p246
 replace q246 := eq_true q246
 try go_wp2_with (first | ((with_reducible refine gate_dst (N := 54) rfl ?_); refine Kd.R_lit (Kd.int .i64) _ 3 ?hg (N := 54) ?hd (xs := ([rd l0_0 0, wrap64 (Int.tdiv (rd l0_0 1) a1)] : List Int)) (inner := [.int .i64 (rd l0_0 0), .int .i64 (wrap64 (Int.tdiv (rd l0_0 1) a1))]) (ok := fun _ => True) (okp := fun _ => True) ?hr ?hp (fun _ hk => hk) trivial (Below.refl _ _) (Nat.le_refl _) (by simp) ?_; (case hd => rfl); (case hg => rfl); (case hr => first | (go_simp; done) | (go_simp; rfl)); (case hp => exact (Reps.one (show Kd.M (Kd.int .i64) _ _ _ (rd l0_0 0) [.int .i64 (rd l0_0 0)] from rfl) (Reps.one (show Kd.M (Kd.int .i64) _ _ _ (wrap64 (Int.tdiv (rd l0_0 1) a1)) [.int .i64 (wrap64 (Int.tdiv (rd l0_0 1) a1))] from rfl) (Reps.none _ _)))); intro v248 w34 ho35 hb hg_ hnew_; clear hg_ hnew_; (first | rw [← Ny247.out] at ho35 | (simp only [Int.reduceToNat] at ho35; rw [← Ny247.out] at ho35)); have HO249 := Aside0.mk (Kd.R_lower ho35 (below_size (zw2_ HB GE240 GE241))); replace BK240 := za_ BK240 hb; replace BK241 := za_ BK241 hb; replace HB := Aside0.mk (below_step (zw2_ HB GE240 GE241) hb); clear hb ho35; obtain ⟨Ao36, co36, eo36⟩ := Kd.R_slice HO249.out; subst eo36) | ((with_reducible refine gate_callee (f := 29) rfl ?_); refine zg_ (some 55) Try.func29 #[.slice Ao36 y247.length co36] (h := ?_); (with_reducible refine (conv_of.calls k _ _ y247 t250 t253 t256 _ ?side1 ?side2 A25.out).mono ?_); (case side1 => exact zk_ ((Kd.R_reads' HO249.out).2.2)); (case side2 => exact (Kd.R_reads' HO249.out).2.1); rintro e w37 ⟨v251, v254, rfl, ho0, ho1, hb⟩; refine ⟨_, rfl, ?_⟩; have HO252 := Aside0.mk (Kd.R_lower (Kd.R_new' ho0 (Kd.R_lt (zr_ HO249.out))) (below_size (zw2_ HB GE240 GE241))); replace HO249 := ze_ HO249 ho0 hb; have HO255 := Aside0.mk (Kd.R_lower ho1 (below_size (zw2_ HB GE240 GE241))); replace BK240 := za_ BK240 hb; replace BK241 := za_ BK241 hb; replace HB := Aside0.mk (below_step (zw2_ HB GE240 GE241) hb); (try clear hb); (try clear ho0); (try clear ho1)) | ((with_reducible refine gate_dst (N := 9) rfl ?_); refine box_event ?hg (N := 9) ?hd (cs := #[.slice none 0 0, .slice none 0 0]) (t := 25) ?hr ?_; (case hd => rfl); (case hg => rfl); (case hr => first | (go_simp; done) | (go_simp; rfl)); intro gb257 hg w38 hbox hb; replace HO249 := zy_ HO249 hb; replace HO252 := zy_ HO252 hb; replace HO255 := zy_ HO255 hb; have BK257 := Aside0.mk (hbox); have GW257 := Aside0.mk (zs_ hg (zw2_ HB GE240 GE241)); have GE257 := Aside0.mk (zs_ hg (zw2_ HB GE240 GE241)); replace HB := Aside0.mk (below_step (zw2_ HB GE240 GE241) hb); have NB240_257 := Aside0.mk (zn_ hg BK240); have NB257_240 := Aside0.mk (zm_ hg BK240); replace BK240 := za_ BK240 hb; have NB241_257 := Aside0.mk (zn_ hg BK241); have NB257_241 := Aside0.mk (zm_ hg BK241); replace BK241 := za_ BK241 hb; clear hb hbox hg; obtain ⟨Ao39, co39, eo39⟩ := Kd.R_slice HO252.out; subst eo39; have hnb40 := NB257_240.out; have hnc40 := NB240_257.out; have hnb41 := NB257_241.out; have hnc41 := NB241_257.out; have hcz42_0 := zx_ (v := .slice none 0 0) BK257 0; have hcz42_1 := zx_ (v := .slice none 0 0) BK257 1; have hfz42_0 := blk_frozen BK257.out 0; have hfz42_1 := blk_frozen BK257.out 1; obtain ⟨Ao43, co43, eo43⟩ := Kd.R_slice HO255.out; subst eo43))
 go_loopg [11, 61] k (fun kq v11 v61 w' => ∃ (x11_1 : List Int) (x61_1 : Int) (x258001_1 : List Int) (u258001 : Value), v61 = .int .i64 x61_1 ∧ Aside0 (conv_Pool.l0 kq a1 (rd l0_0 1) (wrap64 (Int.tdiv (rd l0_0 1) a1)) x11_1 (t253.length : Int) x61_1 l0_0 l0_1 t250 x258001_1 = some (r1, r2, r3, r4)) ∧ Aside0 (kq ≤ k) ∧ Aside0 (Kd.R (Kd.int .i64) 3 w' w.heap.size (fun k_ => some k_ ≠ ((.slice Ao39 t250.length co39) : Value).ownBlock) v11 x11_1) ∧ Aside0 (Kd.R (Kd.int .i64) 3 w' w.heap.size (fun k_ => some k_ ≠ (v11 : Value).ownBlock) (.slice Ao39 t250.length co39) t250) ∧ Aside0 (Kd.R (Kd.int .i64) 33 w' w.heap.size (fun _ => True) u258001 x258001_1) ∧ Aside0 (w'.heap[gb240]? = some (.cells #[(.slice (some ad243) l0_0.length c0_0), (.slice A0_1 l0_1.length c0_1)] 25 (0, 0))) ∧ Aside0 (w'.heap[gb241]? = some (.cells #[(.slice none 0 0), (.slice none 0 0)] 25 (0, 0))) ∧ Aside0 (w'.heap[gb257]? = some (.cells #[(.slice Ao39 t250.length co39), u258001] 25 (0, 0))) ∧ Aside0 (Below w.heap.size w w'))
 case atStart => exact ⟨(([] : List Int)), (0), (t253), (.slice Ao43 t253.length co43), z1_, H', ⟨Nat.le_refl _⟩, ⟨z2_⟩, ⟨zr_ (Kd.R_mono (Kd.R_far (p := ⟨gb257, 1, none⟩) (Kd.R_far (p := ⟨gb257, 0, none⟩) (Kd.R_types HO252.out BK257.out (by decide)) (fun _ hk => hk.2) (.slice Ao39 t250.length co39)) (fun _ hk => hk.2) (.slice Ao43 t253.length co43)) (fun _ hk => (by simp [Value.ownBlock])))⟩, ⟨zr_ (Kd.R_mono (Kd.R_far (p := ⟨gb257, 1, none⟩) (Kd.R_far (p := ⟨gb257, 0, none⟩) (Kd.R_types HO255.out BK257.out (by decide)) (fun _ hk => hk.2) (.slice Ao39 t250.length co39)) (fun _ hk => hk.2) (.slice Ao43 t253.length co43)) (fun _ hk => trivial))⟩, ⟨zv1_ BK240 NB240_257⟩, ⟨zv1_ BK241 NB241_257⟩, ⟨zo2_ BK257⟩, ⟨zw3_ HB GE240 GE241 GE257⟩⟩
 case round =>
  clear H'
  try clear c1
  try clear c2
  try clear p2
  try clear q2
  try clear hx2
  try clear qi2
  try clear c4
  try clear c5
  try clear c5b0
  try clear c5b1
  try clear c6
  try clear c6b0
  try clear p6
  try clear c9
  try clear c14
  try clear c14b0
  try clear c14b1
  try clear c15
  try clear c15b0
  try clear c18
  try clear c19
  try clear c23
  try clear c23b0
  try clear c23b1
  try clear c24
  try clear c24b0
  try clear c24b1
  try clear p24
  try clear q24
  try clear hx24
  try clear qi24
  try clear c26
  try clear c28
  try clear c29
  try clear c40
  try clear c41
  try clear hcz10_0
  try clear hcz10_1
  try clear hcz12_0
  try clear hcz12_1
  try clear hcz13_0
  try clear hcz13_1
  try clear hcz19_0
  try clear hcz19_1
  try clear hcz21_0
  try clear hcz21_1
  try clear hcz22_0
  try clear hcz22_1
  try clear hcz29_0
  try clear hcz29_1
  try clear hcz31_0
  try clear hcz31_1
  try clear hcz33_0
  try clear hcz33_1
  try clear hcz42_0
  try clear hcz42_1
  try clear hfz10_0
  try clear hfz10_1
  try clear hfz12_0
  try clear hfz12_1
  try clear hfz13_0
  try clear hfz13_1
  try clear hfz19_0
  try clear hfz19_1
  try clear hfz21_0
  try clear hfz21_1
  try clear hfz22_0
  try clear hfz22_1
  try clear hfz29_0
  try clear hfz29_1
  try clear hfz31_0
  try clear hfz31_1
  try clear hfz33_0
  try clear hfz33_1
  try clear hfz42_0
  try clear hfz42_1
  try clear hx243_0
  try clear hx244_0
  try clear hx245_0
  try clear hx246_0
  try clear p243
  try clear p244
  try clear p245
  try clear p246
  try clear q243
  try clear q244
  try clear q245
  try clear q246
  obtain ⟨x11_1, x61_1, x258001_1, u258001, rfl, HA, HK1, HO_11, HO_258000, HO_258001, BK240, BK241, BK257, HB⟩ := hrel
  cases gk with
  | zero => exact absurd HA.out (by simp [conv_Pool.l0])
  | succ k1 =>
   have H := HA.out
   clear HA
   simp only [conv_Pool.l0] at H
   by_cases c44 : x61_1 < (t253.length : Int)
   rotate_left
   ·rw [if_neg c44] at H
    have c44b0 : decide (x61_1 < (t253.length : Int)) = false := decide_eq_false c44
    clear c44
    simp only [Option.some.injEq, Prod.mk.injEq] at H
    obtain ⟨rfl, rfl, rfl, rfl⟩ := H
    have hnb68 := NB257_240.out
    have hnc68 := NB240_257.out
    have hnb69 := NB257_241.out
    have hnc69 := NB241_257.out
    have hcz70_0 := zx_ (v := .slice Ao39 t250.length co39) BK257 0
    have hcz70_1 := zx_ (v := u258001) BK257 1
    have hfz70_0 := blk_frozen BK257.out 0
    have hfz70_1 := blk_frozen BK257.out 1
    have hnb71 := NB241_240.out
    have hnc71 := NB240_241.out
    have hcz72_0 := zx_ (v := .slice none 0 0) BK241 0
    have hcz72_1 := zx_ (v := .slice none 0 0) BK241 1
    have hfz72_0 := blk_frozen BK241.out 0
    have hfz72_1 := blk_frozen BK241.out 1
    obtain ⟨Ao73, co73, eo73⟩ := Kd.R_slice HO_258001.out
    subst eo73
    go_wp2
    refine bodyPost_ret (results_ctt rfl _ _ gb241 25 #[.slice Ao39 t250.length co39, .slice Ao73 x258001_1.length co73] (0, 0) _ rfl (zo2_ BK241) Try.underlying25 rfl (by kernel_rfl)) rfl ?_
    exact ⟨_, _, _, z0_, zr_ (Kd.R_mono (Kd.R_far (p := ⟨gb241, 1, none⟩) (Kd.R_far (p := ⟨gb241, 0, none⟩) (Kd.R_types HO_258000.out BK241.out (by decide)) (fun _ hk => hk.2) (.slice Ao39 t250.length co39)) (fun _ hk => hk.2) (.slice Ao73 x258001_1.length co73)) (fun _ hk => hk.1)), zr_ (Kd.R_mono (Kd.R_far (p := ⟨gb241, 1, none⟩) (Kd.R_far (p := ⟨gb241, 0, none⟩) (Kd.R_types HO_258001.out BK241.out (by decide)) (fun _ hk => hk.2) (.slice Ao39 t250.length co39)) (fun _ hk => hk.2) (.slice Ao73 x258001_1.length co73)) (fun _ hk => trivial)), zr_ (Kd.R_mono (Kd.R_far (p := ⟨gb241, 1, none⟩) (Kd.R_far (p := ⟨gb241, 0, none⟩) (Kd.R_types HO_11.out BK241.out (by decide)) (fun _ hk => hk.2) (.slice Ao39 t250.length co39)) (fun _ hk => hk.2) (.slice Ao73 x258001_1.length co73)) (fun _ hk => hk.1)), zw3_ HB GE240 GE241 GE257⟩
   rw [if_pos c44] at H
   have c44b0 : decide (x61_1 < (t253.length : Int)) = true := decide_eq_true c44
   clear c44
   by_cases c45 : (wrap64 (Int.tdiv (rd l0_0 1) a1)) = 0
   ·rw [if_pos c45] at H
    exact absurd H (by simp)
   rw [if_neg c45] at H
   have c45b0 : ((wrap64 (Int.tdiv (rd l0_0 1) a1)) == 0) = false := beq_eq_false_iff_ne.mpr c45
   have c45b1 : ((wrap64 (Int.tdiv (rd l0_0 1) a1)) != 0) = true := bne_iff_ne.mpr c45
   have H' := Aside0.mk H
   clear H
   try go_wp2
   replace HO_11 := Aside0.mk (Kd.R_drew HO_11.out)
   replace HO_258000 := Aside0.mk (Kd.R_drew HO_258000.out)
   replace HO_258001 := Aside0.mk (Kd.R_drew HO_258001.out)
   replace BK240 := Aside0.mk (blk_drew BK240.out)
   replace BK241 := Aside0.mk (blk_drew BK241.out)
   replace BK257 := Aside0.mk (blk_drew BK257.out)
   replace HB := Aside0.mk (below_drew1 HB.out)
   refine start_ (n := 12) (S := fun w' => True) (ds := []) #[false, false, false, false, false, false, false, false, false, false, false, false] (by kernel_rfl) rfl rfl trivial (fun hHeld => ?_); refine with_tabW conv_Pool.tab13 conv_Pool.bits13 (fun HT_ HW_ => ?_)
   generalize wr.drew = w46 at HO_11 HO_258000 HO_258001 BK240 BK241 BK257 HB hHeld ⊢
   refine yp_ ?_ 0 64
   refine yp_ ?_ 1 65
   refine yp_ ?_ 2 66
   refine yp_ ?_ 3 67
   refine yp_ ?_ 4 68
   refine yp_ ?_ 5 69
   refine yp_ ?_ 6 70
   refine yp_ ?_ 7 71
   refine yp_ ?_ 8 72
   refine yp_ ?_ 9 73
   refine yp_ ?_ 10 74
   refine yp_ ?_ 11 13
   refine done_ (done_of HT_.out (by kernel_rfl)) ?_
   try go_wp2
   go_loopg [13, 14] k1 (fun kq v13 v14 w' => ∃ (x13_2 : Int) (x14_2 : Int), v13 = .int .i64 x13_2 ∧ v14 = .int .i64 x14_2 ∧ Aside0 (conv_Pool.l1 kq a1 (rd l0_0 1) (wrap64 (Int.tdiv (rd l0_0 1) a1)) x11_1 x61_1 x13_2 x14_2 (t253.length : Int) x61_1 l0_0 l0_1 t250 x258001_1 = some (r1, r2, r3, r4)) ∧ Aside0 (kq ≤ k1) ∧ Aside0 (Kd.R (Kd.int .i64) 3 w' w.heap.size (fun k_ => some k_ ≠ ((.slice Ao39 t250.length co39) : Value).ownBlock) u11 x11_1) ∧ Aside0 (Kd.R (Kd.int .i64) 3 w' w.heap.size (fun k_ => some k_ ≠ (u11 : Value).ownBlock) (.slice Ao39 t250.length co39) t250) ∧ Aside0 (Kd.R (Kd.int .i64) 33 w' w.heap.size (fun _ => True) u258001 x258001_1) ∧ Aside0 (w'.heap[gb240]? = some (.cells #[(.slice (some ad243) l0_0.length c0_0), (.slice A0_1 l0_1.length c0_1)] 25 (0, 0))) ∧ Aside0 (w'.heap[gb241]? = some (.cells #[(.slice none 0 0), (.slice none 0 0)] 25 (0, 0))) ∧ Aside0 (w'.heap[gb257]? = some (.cells #[(.slice Ao39 t250.length co39), u258001] 25 (0, 0))) ∧ Aside0 (Below w.heap.size w w'))
   case atStart => exact ⟨(wrap64 ((wrap64 ((wrap64 (Int.tdiv x61_1 (wrap64 (Int.tdiv (rd l0_0 1) a1)))) * (rd l0_0 1))) + (wrap64 ((Int.tmod x61_1 (wrap64 (Int.tdiv (rd l0_0 1) a1))) * a1)))), (wrap64 ((wrap64 ((wrap64 ((wrap64 (Int.tdiv x61_1 (wrap64 (Int.tdiv (rd l0_0 1) a1)))) * (rd l0_0 1))) + (wrap64 ((Int.tmod x61_1 (wrap64 (Int.tdiv (rd l0_0 1) a1))) * a1)))) + 1)), z1_, z1_, H', ⟨Nat.le_refl _⟩, ⟨zr_ HO_11.out⟩, ⟨zr_ HO_258000.out⟩, ⟨zr_ HO_258001.out⟩, ⟨zb_ BK240⟩, ⟨zb_ BK241⟩, ⟨zb_ BK257⟩, ⟨zw3_ HB GE240 GE241 GE257⟩⟩
   case round =>
    clear H'
    try clear c1
    try clear c2
    try clear p2
    try clear q2
    try clear hx2
    try clear qi2
    try clear c4
    try clear c5
    try clear c5b0
    try clear c5b1
    try clear c6
    try clear c6b0
    try clear p6
    try clear c9
    try clear c14
    try clear c14b0
    try clear c14b1
    try clear c15
    try clear c15b0
    try clear c18
    try clear c19
    try clear c23
    try clear c23b0
    try clear c23b1
    try clear c24
    try clear c24b0
    try clear c24b1
    try clear p24
    try clear q24
    try clear hx24
    try clear qi24
    try clear c26
    try clear c28
    try clear c29
    try clear c40
    try clear c41
    try clear c44
    try clear c44b0
    try clear c45
    try clear c45b0
    try clear c45b1
    try clear hcz10_0
    try clear hcz10_1
    try clear hcz12_0
    try clear hcz12_1
    try clear hcz13_0
    try clear hcz13_1
    try clear hcz19_0
    try clear hcz19_1
    try clear hcz21_0
    try clear hcz21_1
    try clear hcz22_0
    try clear hcz22_1
    try clear hcz29_0
    try clear hcz29_1
    try clear hcz31_0
    try clear hcz31_1
    try clear hcz33_0
    try clear hcz33_1
    try clear hcz42_0
    try clear hcz42_1
    try clear hfz10_0
    try clear hfz10_1
    try clear hfz12_0
    try clear hfz12_1
    try clear hfz13_0
    try clear hfz13_1
    try clear hfz19_0
    try clear hfz19_1
    try clear hfz21_0
    try clear hfz21_1
    try clear hfz22_0
    try clear hfz22_1
    try clear hfz29_0
    try clear hfz29_1
    try clear hfz31_0
    try clear hfz31_1
    try clear hfz33_0
    try clear hfz33_1
    try clear hfz42_0
    try clear hfz42_1
    try clear hx243_0
    try clear hx244_0
    try clear hx245_0
    try clear hx246_0
    try clear p2
    try clear p24
    try clear p243
    try clear p244
    try clear p245
    try clear p246
    try clear p6
    try clear q2
    try clear q24
    try clear q243
    try clear q244
    try clear q245
    try clear q246
    obtain ⟨x13_2, x14_2, rfl, rfl, HA, HK2, HO_11, HO_258000, HO_258001, BK240, BK241, BK257, HB⟩ := hrel
    cases gk with
    | zero => exact absurd HA.out (by simp [conv_Pool.l1])
    | succ k2 =>
     have H := HA.out
     clear HA
     simp only [conv_Pool.l1] at H
     by_cases c47 : (wrap64 (Int.tdiv (rd l0_0 1) a1)) = 0
     ·rw [if_pos c47] at H
      exact absurd H (by simp)
     rw [if_neg c47] at H
     have c47b0 : ((wrap64 (Int.tdiv (rd l0_0 1) a1)) == 0) = false := beq_eq_false_iff_ne.mpr c47
     have c47b1 : ((wrap64 (Int.tdiv (rd l0_0 1) a1)) != 0) = true := bne_iff_ne.mpr c47
     by_cases c48 : x14_2 < (wrap64 ((wrap64 ((wrap64 ((wrap64 (Int.tdiv x61_1 (wrap64 (Int.tdiv (rd l0_0 1) a1)))) * (rd l0_0 1))) + (wrap64 ((Int.tmod x61_1 (wrap64 (Int.tdiv (rd l0_0 1) a1))) * a1)))) + a1))
     rotate_left
     ·rw [if_neg c48] at H
      have c48b0 : decide (x14_2 < (wrap64 ((wrap64 ((wrap64 ((wrap64 (Int.tdiv x61_1 (wrap64 (Int.tdiv (rd l0_0 1) a1)))) * (rd l0_0 1))) + (wrap64 ((Int.tmod x61_1 (wrap64 (Int.tdiv (rd l0_0 1) a1))) * a1)))) + a1))) = false := decide_eq_false c48
      clear c48
      by_cases c58 : 0 ≤ x13_2
      rotate_left
      ·rw [if_neg c58] at H
       exact absurd H (by simp)
      rw [if_pos c58] at H
      have c58b0 : decide (0 ≤ x13_2) = true := decide_eq_true c58
      clear c58
      by_cases c59 : x13_2 < (l0_1.length : Int)
      rotate_left
      ·rw [if_neg c59] at H
       exact absurd H (by simp)
      rw [if_pos c59] at H
      have c59b0 : decide (x13_2 < (l0_1.length : Int)) = true := decide_eq_true c59
      clear c59
      by_cases c60 : 0 ≤ x61_1
      rotate_left
      ·rw [if_neg c60] at H
       exact absurd H (by simp)
      rw [if_pos c60] at H
      have c60b0 : decide (0 ≤ x61_1) = true := decide_eq_true c60
      clear c60
      by_cases c61 : x61_1 < (x258001_1.length : Int)
      rotate_left
      ·rw [if_neg c61] at H
       exact absurd H (by simp)
      rw [if_pos c61] at H
      have c61b0 : decide (x61_1 < (x258001_1.length : Int)) = true := decide_eq_true c61
      clear c61
      obtain ⟨y261, hy261⟩ : ∃ y_ : List Int, y_ = (x258001_1.set (x61_1 : Int).toNat (rd l0_1 x13_2)) := ⟨_, rfl⟩
      replace H : (if x11_1.length < 17592186044416 then (conv_Pool.l0 k2 a1 (rd l0_0 1) (wrap64 (Int.tdiv (rd l0_0 1) a1)) (x11_1 ++ [x13_2]) (t253.length : Int) (wrap64 (x61_1 + 1)) l0_0 l0_1 t250 y261) else (none)) = some (r1, r2, r3, r4) := by first | (rw [hy261]; with_reducible exact H) | (have H2_ := (Option.bind_some _ _).symm.trans H; rw [hy261]; with_reducible exact H2_) | (have H2_ := (Option.bind_some _ _).symm.trans H; with_reducible exact H2_) | with_reducible exact H | (rw [hy261]; exact H) | exact H
      have Ny261 := Aside0.mk hy261
      clear hy261
      by_cases c63 : x11_1.length < 17592186044416
      rotate_left
      ·rw [if_neg c63] at H
       exact absurd H (by simp)
      rw [if_pos c63] at H
      have LMc63 := Aside0.mk c63
      clear c63
      obtain ⟨y262, hy262⟩ : ∃ y_ : List Int, y_ = (x11_1 ++ [x13_2]) := ⟨_, rfl⟩
      replace H : (conv_Pool.l0 k2 a1 (rd l0_0 1) (wrap64 (Int.tdiv (rd l0_0 1) a1)) y262 (t253.length : Int) (wrap64 (x61_1 + 1)) l0_0 l0_1 t250 y261) = some (r1, r2, r3, r4) := by first | (rw [hy262]; with_reducible exact H) | (have H2_ := (Option.bind_some _ _).symm.trans H; rw [hy262]; with_reducible exact H2_) | (have H2_ := (Option.bind_some _ _).symm.trans H; with_reducible exact H2_) | with_reducible exact H | (rw [hy262]; exact H) | exact H
      have Ny262 := Aside0.mk hy262
      clear hy262
      have H' := Aside0.mk H
      clear H
      try go_wp2
      replace HO_11 := Aside0.mk (Kd.R_drew HO_11.out)
      replace HO_258000 := Aside0.mk (Kd.R_drew HO_258000.out)
      replace HO_258001 := Aside0.mk (Kd.R_drew HO_258001.out)
      replace BK240 := Aside0.mk (blk_drew BK240.out)
      replace BK241 := Aside0.mk (blk_drew BK241.out)
      replace BK257 := Aside0.mk (blk_drew BK257.out)
      replace HB := Aside0.mk (below_drew1 HB.out)
      refine start_ (n := 15) (S := fun w' => True) (ds := []) #[false, false, false, false, false, false, false, false, false, false, false, false, false, false, false] (by kernel_rfl) rfl rfl trivial (fun hHeld => ?_); refine with_tabW conv_Pool.tab15 conv_Pool.bits15 (fun HT_ HW_ => ?_)
      generalize wr.drew = w64 at HO_11 HO_258000 HO_258001 BK240 BK241 BK257 HB hHeld ⊢
      refine yp_ ?_ 0 77
      refine yp_ ?_ 1 78
      refine yp_ ?_ 2 79
      refine yp_ ?_ 3 80
      refine yp_ ?_ 4 81
      refine yp_ ?_ 5 82
      refine yp_ ?_ 6 83
      refine yp_ ?_ 7 84
      refine yp_ ?_ 8 85
      refine yp_ ?_ 9 86
      refine yp_ ?_ 10 87
      refine yp_ ?_ 11 88
      refine yp_ ?_ 12 89
      refine yp_ ?_ 13 90
      refine yp_ ?_ 14 91
      refine done_ (done_of HT_.out (by kernel_rfl)) ?_
      try go_wp2
      replace HO_11 := Aside0.mk (Kd.R_drew HO_11.out)
      replace HO_258000 := Aside0.mk (Kd.R_drew HO_258000.out)
      replace HO_258001 := Aside0.mk (Kd.R_drew HO_258001.out)
      replace BK240 := Aside0.mk (blk_drew BK240.out)
      replace BK241 := Aside0.mk (blk_drew BK241.out)
      replace BK257 := Aside0.mk (blk_drew BK257.out)
      replace HB := Aside0.mk (below_drew1 HB.out)
      have p260 : 0 ≤ (x13_2 : Int) := of_decide_eq_true (by first | (with_reducible assumption) | assumption)
      have q260 : x13_2 < (l0_1.length : Int) := of_decide_eq_true (by first | (with_reducible assumption) | assumption)
      obtain ⟨ad260, e260, hx260_0⟩ := Kd.at_int HR0_1.out x13_2 p260 q260
      have hw260_0 := hx260_0
      cases e260
      replace hx260_0 := (HB.out.cell (World.block_lt_of_cell? w _ hx260_0)).trans hx260_0
      replace p260 := eq_true p260
      replace q260 := eq_true q260
      have p62 : 0 ≤ (x61_1 : Int) := of_decide_eq_true (by first | (with_reducible assumption) | assumption)
      have q62 : (x61_1 : Int) < ((x258001_1.length : Int) : Int) := of_decide_eq_true (by first | (with_reducible assumption) | assumption)
      obtain ⟨go62, co62, eo62, gb62, gl62, cl62, HG62⟩ := Kd.R_form HO_258001.out (by omega)
      (first | cases eo62 | (injection eo62 with ea_ en_ ec_; (first | subst ea_ | (injection ea_ with ea_; subst ea_)); subst ec_; clear en_))
      have GB62 := Aside0.mk gb62
      have GG62 := Aside0.mk HG62
      clear gb62 gl62 HG62
      obtain ⟨hx62_0, hf62_0⟩ := Kd.R_celln 0 HO_258001.out (x61_1 : Int) p62 q62
      replace p62 := eq_true p62
      replace q62 := eq_true q62
      have HP66 := Kd.R_putn HO_258001.out (x61_1 : Int) (rd l0_1 x13_2)
      rw [← Ny261.out] at HP66
      have HQ66 := Aside0.mk HP66
      clear HP66
      refine start_ (n := 10) (S := fun w' => w'.cell? ⟨gb257, 0, none⟩ = some (.slice Ao39 t250.length co39) ∧ w'.cell? ⟨gb257, 1, none⟩ = some (.slice (some ⟨go62, 0, none⟩) x258001_1.length co62) ∧ w'.cell? ⟨gb240, 0, none⟩ = some (.slice (some ad243) l0_0.length c0_0) ∧ w'.cell? ⟨gb240, 1, none⟩ = some (.slice (some ad260) l0_1.length c0_1) ∧ w'.cell? (ad260.add (x13_2).toNat) = some (.int .i64 (rd l0_1 x13_2))) (ds := [9]) #[false, false, false, false, false, false, false, false, false, false] (by kernel_rfl) rfl rfl ⟨(blk_cell BK257.out 0).trans rfl, (blk_cell BK257.out 1).trans rfl, (blk_cell BK240.out 0).trans rfl, (blk_cell BK240.out 1).trans rfl, ((HB.out.cell (World.block_lt_of_cell? w _ hw260_0)).trans hw260_0)⟩ (fun hHeld => ?_); refine with_tabW conv_Pool.tab19 conv_Pool.bits19 (fun HT_ HW_ => ?_)
      generalize w64.drew = w65 at HO_11 HO_258000 HO_258001 BK240 BK241 BK257 HB GG62 HQ66 hf62_0 hx260_0 hx62_0 hHeld ⊢
      refine yp_ ?_ 0 106
      refine yp_ ?_ 2 108
      refine yp_ ?_ 3 109
      refine yp_ ?_ 5 111
      refine yt5_ ?_ 1 107
      refine yt5_ ?_ 4 110
      refine yp_ ?_ 6 112
      refine yt5_ ?_ 7 113
      refine yp_ ?_ 8 114
      refine yl_ 9 none (fun K hK => ?_)
      refine skip_ (w1 := ?_) (by rfl) rfl ?_ ?_
      rotate_left
      ·go_simp
       rfl
      refine hK.out _ _ ?_
      clear hK K
      refine done_ (done_of HT_.out (by kernel_rfl)) ?_
      try go_wp2_with (first | ((with_reducible refine gate_builtin (b := .append) (xs := #[.tmp 115, .tmp 117]) rfl ?_); at_builtin; refine Kd.R_append (Kd.int .i64) (w0 := w) w.heap.size rfl (.tmp 115) (.tmp 117) 22 3 (.int .i64 0) 8 rfl Try.underlying22 info3 rfl (by decide) (by omega) u11 x11_1 x13_2 [.int .i64 x13_2] (fun k_ => some k_ ≠ (.slice Ao39 t250.length co39 : Value).ownBlock) (fun _ => False) rfl (by first | (go_simp; done) | (go_simp; rfl)) ?aP (fun _ hk => hk.elim) ?aF ?aO ?aB ?aS ?aL ?_; (case aP => exact rfl); (case aB => exact (by repeat (first | (with_reducible first | exact HB.out | apply below_alloc | apply pw_below_drewN | apply below_drew1 | refine below_set ?_ GB62.out | refine below_set ?_ GE240.out | refine below_set ?_ GE241.out | refine below_set ?_ GE257.out) | exact HB.out))); (case aF => exact (fun k_ hk => Kd.fresh' (Kd.R_lt (zr_ ((Kd.R_mono (Kd.R_far (p := ⟨go62, (x61_1 : Int).toNat, none⟩) (Kd.R_types HO_258000.out GG62.out (by decide)) (fun _ hk => hk.2) (.int .i64 (rd l0_1 x13_2))) (fun _ h_ => h_.1))))) k_ hk)); (case aO => exact (zr_ (Kd.R_mono (Kd.R_far (p := ⟨go62, (x61_1 : Int).toNat, none⟩) (Kd.R_types HO_11.out GG62.out (by decide)) (fun _ hk => hk.2) (.int .i64 (rd l0_1 x13_2))) (fun _ hk => hk.1)))); (case aS => exact (below_size (by repeat (first | (with_reducible first | exact HB.out | apply below_alloc | apply pw_below_drewN | apply below_drew1 | refine below_set ?_ GB62.out | refine below_set ?_ GE240.out | refine below_set ?_ GE241.out | refine below_set ?_ GE257.out) | exact HB.out)))); (case aL => have := LMc63.out; omega); intro v263 w67 ho hb hg hat; rw [← Ny262.out] at ho; replace HO_258000 := Aside0.mk (Kd.R_after (ok := (fun _ => True)) (zr_ (Kd.R_mono (Kd.R_far (p := ⟨go62, (x61_1 : Int).toNat, none⟩) (Kd.R_types HO_258000.out GG62.out (by decide)) (fun _ hk => hk.2) (.int .i64 (rd l0_1 x13_2))) (fun _ hk => ⟨trivial, hk.1⟩))) hg hat); replace BK240 := Aside0.mk (blk_grown (g := gb240) (o := .cells #[.slice (some ad243) l0_0.length c0_0, .slice (some ad260) l0_1.length c0_1] 25 (0, 0)) (by (with_reducible repeat (first | refine blk_drewN ?_ _ | refine blk_drew ?_ | refine blk_alloc ?_ _)); refine blk_far ?_ (by have h_ := Kd.R_ne HO_258001.out BK240.out (by decide); intro e_; exact h_ (by rw [e_]; rfl)) _; (with_reducible repeat (first | refine blk_drewN ?_ _ | refine blk_drew ?_ | refine blk_alloc ?_ _)); exact BK240.out) hg (Kd.R_ne HO_11.out BK240.out (by decide))); replace BK241 := Aside0.mk (blk_grown (g := gb241) (o := .cells #[.slice none 0 0, .slice none 0 0] 25 (0, 0)) (by (with_reducible repeat (first | refine blk_drewN ?_ _ | refine blk_drew ?_ | refine blk_alloc ?_ _)); refine blk_far ?_ (by have h_ := Kd.R_ne HO_258001.out BK241.out (by decide); intro e_; exact h_ (by rw [e_]; rfl)) _; (with_reducible repeat (first | refine blk_drewN ?_ _ | refine blk_drew ?_ | refine blk_alloc ?_ _)); exact BK241.out) hg (Kd.R_ne HO_11.out BK241.out (by decide))); replace BK257 := Aside0.mk (blk_grown (g := gb257) (o := .cells #[.slice Ao39 t250.length co39, .slice (some ⟨go62, 0, none⟩) x258001_1.length co62] 25 (0, 0)) (by (with_reducible repeat (first | refine blk_drewN ?_ _ | refine blk_drew ?_ | refine blk_alloc ?_ _)); refine blk_far ?_ (by have h_ := Kd.R_ne HO_258001.out BK257.out (by decide); intro e_; exact h_ (by rw [e_]; rfl)) _; (with_reducible repeat (first | refine blk_drewN ?_ _ | refine blk_drew ?_ | refine blk_alloc ?_ _)); exact BK257.out) hg (Kd.R_ne HO_11.out BK257.out (by decide))); replace HO_258001 := Aside0.mk (Kd.R_over' (zr_ HQ66.out) (Kd.R_typed (zr_ ((Kd.R_mono (Kd.R_far (p := ⟨go62, (x61_1 : Int).toNat, none⟩) (Kd.R_types HO_11.out GG62.out (by decide)) (fun _ hk => hk.2) (.int .i64 (rd l0_1 x13_2))) (fun _ h_ => h_.1))))) (by decide) hg); replace HB := Aside0.mk (hb); have HO264 := Aside0.mk (ho); clear HO_11; clear ho hb hg hat))
      go_roundg k2
      case measure => have := HK1.out; have := HK2.out; omega
      case rel => exact ⟨(y262), (wrap64 (x61_1 + 1)), (y261), (.slice (some ⟨go62, 0, none⟩) x258001_1.length co62), z1_, H', ⟨by have := HK1.out; have := HK2.out; omega⟩, ⟨zr_ HO264.out⟩, ⟨zr_ (Kd.R_mono HO_258000.out (fun _ hk => hk.2))⟩, ⟨zr_ HO_258001.out⟩, ⟨zb_ BK240⟩, ⟨zb_ BK241⟩, ⟨zb_ BK257⟩, ⟨zw3_ HB GE240 GE241 GE257⟩⟩
     rw [if_pos c48] at H
     have c48b0 : decide (x14_2 < (wrap64 ((wrap64 ((wrap64 ((wrap64 (Int.tdiv x61_1 (wrap64 (Int.tdiv (rd l0_0 1) a1)))) * (rd l0_0 1))) + (wrap64 ((Int.tmod x61_1 (wrap64 (Int.tdiv (rd l0_0 1) a1))) * a1)))) + a1))) = true := decide_eq_true c48
     clear c48
     by_cases c49 : 0 ≤ x14_2
     rotate_left
     ·rw [if_neg c49] at H
      exact absurd H (by simp)
     rw [if_pos c49] at H
     have c49b0 : decide (0 ≤ x14_2) = true := decide_eq_true c49
     clear c49
     by_cases c50 : x14_2 < (l0_1.length : Int)
     rotate_left
     ·rw [if_neg c50] at H
      exact absurd H (by simp)
     rw [if_pos c50] at H
     have c50b0 : decide (x14_2 < (l0_1.length : Int)) = true := decide_eq_true c50
     clear c50
     by_cases c51 : 0 ≤ x13_2
     rotate_left
     ·rw [if_neg c51] at H
      exact absurd H (by simp)
     rw [if_pos c51] at H
     have c51b0 : decide (0 ≤ x13_2) = true := decide_eq_true c51
     clear c51
     by_cases c52 : x13_2 < (l0_1.length : Int)
     rotate_left
     ·rw [if_neg c52] at H
      exact absurd H (by simp)
     rw [if_pos c52] at H
     have c52b0 : decide (x13_2 < (l0_1.length : Int)) = true := decide_eq_true c52
     clear c52
     by_cases c53 : (rd l0_1 x14_2) > (rd l0_1 x13_2)
     ·rw [if_pos c53] at H
      have c53b0 : decide ((rd l0_1 x13_2) < (rd l0_1 x14_2)) = true := decide_eq_true c53
      clear c53
      have H' := Aside0.mk H
      clear H
      try go_wp2
      replace HO_11 := Aside0.mk (Kd.R_drew HO_11.out)
      replace HO_258000 := Aside0.mk (Kd.R_drew HO_258000.out)
      replace HO_258001 := Aside0.mk (Kd.R_drew HO_258001.out)
      replace BK240 := Aside0.mk (blk_drew BK240.out)
      replace BK241 := Aside0.mk (blk_drew BK241.out)
      replace BK257 := Aside0.mk (blk_drew BK257.out)
      replace HB := Aside0.mk (below_drew1 HB.out)
      refine start_ (n := 15) (S := fun w' => True) (ds := []) #[false, false, false, false, false, false, false, false, false, false, false, false, false, false, false] (by kernel_rfl) rfl rfl trivial (fun hHeld => ?_); refine with_tabW conv_Pool.tab15 conv_Pool.bits15 (fun HT_ HW_ => ?_)
      generalize wr.drew = w54 at HO_11 HO_258000 HO_258001 BK240 BK241 BK257 HB hHeld ⊢
      refine yp_ ?_ 0 77
      refine yp_ ?_ 1 78
      refine yp_ ?_ 2 79
      refine yp_ ?_ 3 80
      refine yp_ ?_ 4 81
      refine yp_ ?_ 5 82
      refine yp_ ?_ 6 83
      refine yp_ ?_ 7 84
      refine yp_ ?_ 8 85
      refine yp_ ?_ 9 86
      refine yp_ ?_ 10 87
      refine yp_ ?_ 11 88
      refine yp_ ?_ 12 89
      refine yp_ ?_ 13 90
      refine yp_ ?_ 14 91
      refine done_ (done_of HT_.out (by kernel_rfl)) ?_
      try go_wp2
      replace HO_11 := Aside0.mk (Kd.R_drew HO_11.out)
      replace HO_258000 := Aside0.mk (Kd.R_drew HO_258000.out)
      replace HO_258001 := Aside0.mk (Kd.R_drew HO_258001.out)
      replace BK240 := Aside0.mk (blk_drew BK240.out)
      replace BK241 := Aside0.mk (blk_drew BK241.out)
      replace BK257 := Aside0.mk (blk_drew BK257.out)
      replace HB := Aside0.mk (below_drew1 HB.out)
      have p258 : 0 ≤ (x14_2 : Int) := of_decide_eq_true (by first | (with_reducible assumption) | assumption)
      have q258 : x14_2 < (l0_1.length : Int) := of_decide_eq_true (by first | (with_reducible assumption) | assumption)
      obtain ⟨ad258, e258, hx258_0⟩ := Kd.at_int HR0_1.out x14_2 p258 q258
      have hw258_0 := hx258_0
      cases e258
      replace hx258_0 := (HB.out.cell (World.block_lt_of_cell? w _ hx258_0)).trans hx258_0
      replace p258 := eq_true p258
      replace q258 := eq_true q258
      have p259 : 0 ≤ (x13_2 : Int) := of_decide_eq_true (by first | (with_reducible assumption) | assumption)
      have q259 : x13_2 < (l0_1.length : Int) := of_decide_eq_true (by first | (with_reducible assumption) | assumption)
      obtain ⟨ad259, e259, hx259_0⟩ := Kd.at_int HR0_1.out x13_2 p259 q259
      have hw259_0 := hx259_0
      obtain rfl : ad258 = ad259 := (by injection e259)
      replace hx259_0 := (HB.out.cell (World.block_lt_of_cell? w _ hx259_0)).trans hx259_0
      replace p259 := eq_true p259
      replace q259 := eq_true q259
      refine start_ (n := 11) (S := fun w' => w'.cell? ⟨gb240, 0, none⟩ = some (.slice (some ad243) l0_0.length c0_0) ∧ w'.cell? ⟨gb240, 1, none⟩ = some (.slice (some ad258) l0_1.length c0_1) ∧ w'.cell? (ad258.add (x14_2).toNat) = some (.int .i64 (rd l0_1 x14_2)) ∧ w'.cell? (ad258.add (x13_2).toNat) = some (.int .i64 (rd l0_1 x13_2))) (ds := []) #[false, false, false, false, false, false, false, false, false, false, false] (by kernel_rfl) rfl rfl ⟨(blk_cell BK240.out 0).trans rfl, (blk_cell BK240.out 1).trans rfl, ((HB.out.cell (World.block_lt_of_cell? w _ hw258_0)).trans hw258_0), ((HB.out.cell (World.block_lt_of_cell? w _ hw259_0)).trans hw259_0)⟩ (fun hHeld => ?_); refine with_tabW conv_Pool.tab17 conv_Pool.bits17 (fun HT_ HW_ => ?_)
      generalize w54.drew = w55 at HO_11 HO_258000 HO_258001 BK240 BK241 BK257 HB hx258_0 hx259_0 hHeld ⊢
      refine yp_ ?_ 0 94
      refine yp_ ?_ 2 96
      refine yp_ ?_ 5 99
      refine yp_ ?_ 7 101
      refine yt4_ ?_ 1 95
      refine yp_ ?_ 3 97
      refine yt4_ ?_ 4 98
      refine yt4_ ?_ 6 100
      refine yp_ ?_ 8 102
      refine yt4_ ?_ 9 103
      refine yp_ ?_ 10 104
      refine done_ (done_of HT_.out (by kernel_rfl)) ?_
      try go_wp2
      go_roundg k2
      case measure => have := HK1.out; have := HK2.out; omega
      case rel => exact ⟨(x14_2), (wrap64 (x14_2 + 1)), z1_, z1_, H', ⟨by have := HK1.out; have := HK2.out; omega⟩, ⟨zr_ HO_11.out⟩, ⟨zr_ HO_258000.out⟩, ⟨zr_ HO_258001.out⟩, ⟨zb_ BK240⟩, ⟨zb_ BK241⟩, ⟨zb_ BK257⟩, ⟨zw3_ HB GE240 GE241 GE257⟩⟩
     rw [if_neg c53] at H
     have c53b0 : decide ((rd l0_1 x13_2) < (rd l0_1 x14_2)) = false := decide_eq_false c53
     clear c53
     have H' := Aside0.mk H
     clear H
     try go_wp2
     replace HO_11 := Aside0.mk (Kd.R_drew HO_11.out)
     replace HO_258000 := Aside0.mk (Kd.R_drew HO_258000.out)
     replace HO_258001 := Aside0.mk (Kd.R_drew HO_258001.out)
     replace BK240 := Aside0.mk (blk_drew BK240.out)
     replace BK241 := Aside0.mk (blk_drew BK241.out)
     replace BK257 := Aside0.mk (blk_drew BK257.out)
     replace HB := Aside0.mk (below_drew1 HB.out)
     refine start_ (n := 15) (S := fun w' => True) (ds := []) #[false, false, false, false, false, false, false, false, false, false, false, false, false, false, false] (by kernel_rfl) rfl rfl trivial (fun hHeld => ?_); refine with_tabW conv_Pool.tab15 conv_Pool.bits15 (fun HT_ HW_ => ?_)
     generalize wr.drew = w56 at HO_11 HO_258000 HO_258001 BK240 BK241 BK257 HB hHeld ⊢
     refine yp_ ?_ 0 77
     refine yp_ ?_ 1 78
     refine yp_ ?_ 2 79
     refine yp_ ?_ 3 80
     refine yp_ ?_ 4 81
     refine yp_ ?_ 5 82
     refine yp_ ?_ 6 83
     refine yp_ ?_ 7 84
     refine yp_ ?_ 8 85
     refine yp_ ?_ 9 86
     refine yp_ ?_ 10 87
     refine yp_ ?_ 11 88
     refine yp_ ?_ 12 89
     refine yp_ ?_ 13 90
     refine yp_ ?_ 14 91
     refine done_ (done_of HT_.out (by kernel_rfl)) ?_
     try go_wp2
     replace HO_11 := Aside0.mk (Kd.R_drew HO_11.out)
     replace HO_258000 := Aside0.mk (Kd.R_drew HO_258000.out)
     replace HO_258001 := Aside0.mk (Kd.R_drew HO_258001.out)
     replace BK240 := Aside0.mk (blk_drew BK240.out)
     replace BK241 := Aside0.mk (blk_drew BK241.out)
     replace BK257 := Aside0.mk (blk_drew BK257.out)
     replace HB := Aside0.mk (below_drew1 HB.out)
     have p258 : 0 ≤ (x14_2 : Int) := of_decide_eq_true (by first | (with_reducible assumption) | assumption)
     have q258 : x14_2 < (l0_1.length : Int) := of_decide_eq_true (by first | (with_reducible assumption) | assumption)
     obtain ⟨ad258, e258, hx258_0⟩ := Kd.at_int HR0_1.out x14_2 p258 q258
     have hw258_0 := hx258_0
     cases e258
     replace hx258_0 := (HB.out.cell (World.block_lt_of_cell? w _ hx258_0)).trans hx258_0
     replace p258 := eq_true p258
     replace q258 := eq_true q258
     have p259 : 0 ≤ (x13_2 : Int) := of_decide_eq_true (by first | (with_reducible assumption) | assumption)
     have q259 : x13_2 < (l0_1.length : Int) := of_decide_eq_true (by first | (with_reducible assumption) | assumption)
     obtain ⟨ad259, e259, hx259_0⟩ := Kd.at_int HR0_1.out x13_2 p259 q259
     have hw259_0 := hx259_0
     obtain rfl : ad258 = ad259 := (by injection e259)
     replace hx259_0 := (HB.out.cell (World.block_lt_of_cell? w _ hx259_0)).trans hx259_0
     replace p259 := eq_true p259
     replace q259 := eq_true q259
     refine start_ (n := 11) (S := fun w' => w'.cell? ⟨gb240, 0, none⟩ = some (.slice (some ad243) l0_0.length c0_0) ∧ w'.cell? ⟨gb240, 1, none⟩ = some (.slice (some ad258) l0_1.length c0_1) ∧ w'.cell? (ad258.add (x14_2).toNat) = some (.int .i64 (rd l0_1 x14_2)) ∧ w'.cell? (ad258.add (x13_2).toNat) = some (.int .i64 (rd l0_1 x13_2))) (ds := []) #[false, false, false, false, false, false, false, false, false, false, false] (by kernel_rfl) rfl rfl ⟨(blk_cell BK240.out 0).trans rfl, (blk_cell BK240.out 1).trans rfl, ((HB.out.cell (World.block_lt_of_cell? w _ hw258_0)).trans hw258_0), ((HB.out.cell (World.block_lt_of_cell? w _ hw259_0)).trans hw259_0)⟩ (fun hHeld => ?_); refine with_tabW conv_Pool.tab17 conv_Pool.bits17 (fun HT_ HW_ => ?_)
     generalize w56.drew = w57 at HO_11 HO_258000 HO_258001 BK240 BK241 BK257 HB hx258_0 hx259_0 hHeld ⊢
     refine yp_ ?_ 0 94
     refine yp_ ?_ 2 96
     refine yp_ ?_ 5 99
     refine yp_ ?_ 7 101
     refine yt4_ ?_ 1 95
     refine yp_ ?_ 3 97
     refine yt4_ ?_ 4 98
     refine yt4_ ?_ 6 100
     refine yp_ ?_ 8 102
     refine yt4_ ?_ 9 103
     refine yp_ ?_ 10 104
     refine done_ (done_of HT_.out (by kernel_rfl)) ?_
     try go_wp2
     go_roundg k2
     case measure => have := HK1.out; have := HK2.out; omega
     case rel => exact ⟨(x13_2), (wrap64 (x14_2 + 1)), z1_, z1_, H', ⟨by have := HK1.out; have := HK2.out; omega⟩, ⟨zr_ HO_11.out⟩, ⟨zr_ HO_258000.out⟩, ⟨zr_ HO_258001.out⟩, ⟨zb_ BK240⟩, ⟨zb_ BK241⟩, ⟨zb_ BK257⟩, ⟨zw3_ HB GE240 GE241 GE257⟩⟩

end Go.Proofs.Ytcipfhlcgnomaaa.PConvKnown
