/- The functions that the law ConvKnown reaches, as Lean functions, and that each call of the Go function does what its Lean function says, wherever that one answers. Written by a program of mine over the print of the kit; Lean checks it. -/
import Derived.Test.YtcipfhlcgnomaaaPConvKnownx0
import Derived.Test.YtcipfhlcgnomaaaPConvKnownx1
import Derived.Test.YtcipfhlcgnomaaaPConvKnownx2
import Derived.Test.YtcipfhlcgnomaaaPConvKnownx4
import Derived.Test.YtcipfhlcgnomaaaPConvKnownx8
namespace Go.Proofs.Ytcipfhlcgnomaaa.PConvKnown
open Go.RowKit Go.Proofs.YtcipfhlcgnomaaaW.PrintWords Go.Proofs.YtcipfhlcgnomaaaW.PrintLast Go.Proofs.YtcipfhlcgnomaaaW.PrintMore
attribute [local go_sem] max2_int min2_int max_two min_two max_three min_three max_four min_four   -- for this text's walks alone
set_option linter.unusedVariables false
set_option linter.unusedSimpArgs false

/-! ### conv_BackKernel: function 24 -/
mutual
def conv_BackKernel.j0 : Nat → Int → Int → Bool → List Int → List Int → List Int → List Int → Option (List Int × List Int × Int)
 | 0, _, _, _, _, _, _, _ => none
 | k + 1, x2, x3, x21, x301000, x301001, x302000, x302001 => if x21 = true then (some (([] : List Int), ([] : List Int), 1)) else (if (x301000.length : Int) = 2 then (if (x302000.length : Int) = 2 then (if 1 < (x302000.length : Int) then ((conv_windows.f (rd x302000 1) x3 x2).bind fun t308 => (if 1 < (x301000.length : Int) then (if t308 = (rd x301000 1) then (if 0 < (x302000.length : Int) then (if 0 < (x301000.length : Int) then ((conv_of.f k (([rd x301000 0, rd x302000 0, x3] : List Int))).bind fun bt317 => (if bt317.2.2 = 0 then (conv_BackKernel.l0 k x2 x3 (rd x302000 0) (rd x302000 1) (rd x301000 1) (bt317.2.1.length : Int) 0 x301000 x301001 x302000 x302001 bt317.1 bt317.2.1) else (some (([] : List Int), ([] : List Int), bt317.2.2)))) else (none)) else (none)) else (some (([] : List Int), ([] : List Int), 4))) else (none))) else (none)) else (some (([] : List Int), ([] : List Int), 4))) else (some (([] : List Int), ([] : List Int), 4)))
def conv_BackKernel.l0 : Nat → Int → Int → Int → Int → Int → Int → Int → List Int → List Int → List Int → List Int → List Int → List Int → Option (List Int × List Int × Int)
 | 0, _, _, _, _, _, _, _, _, _, _, _, _, _ => none
 | k + 1, x2, x3, x10, x11, x12, x96, x97, x301000, x301001, x302000, x302001, x325000, x325001 => if x97 < x96 then (if (wrap64 (x10 * x3)) = 0 then (none) else (if x3 = 0 then (none) else (if x10 = 0 then (none) else (conv_BackKernel.l1 k x2 x3 x10 x11 x12 x97 (wrap64 (Int.tdiv x97 (wrap64 (x10 * x3)))) (Int.tmod (wrap64 (Int.tdiv x97 x3)) x10) (Int.tmod x97 x3) x96 x97 x12 0 x301000 x301001 x302000 x302001 x325000 x325001 0 0 0)))) else (some (x325000, x325001, 0))
def conv_BackKernel.l1 : Nat → Int → Int → Int → Int → Int → Int → Int → Int → Int → Int → Int → Int → Int → List Int → List Int → List Int → List Int → List Int → List Int → Int → Int → Int → Option (List Int × List Int × Int)
 | 0, _, _, _, _, _, _, _, _, _, _, _, _, _, _, _, _, _, _, _, _, _, _ => none
 | k + 1, x2, x3, x10, x11, x12, x15, x16, x17, x18, x96, x97, x113, x114, x301000, x301001, x302000, x302001, x325000, x325001, x326000, x326001, x326002 => if x114 < x113 then (if 0 ≤ (wrap64 ((wrap64 (x16 * x12)) + x114)) then (if (wrap64 ((wrap64 (x16 * x12)) + x114)) < (x301001.length : Int) then (if 0 ≤ (wrap64 ((wrap64 ((wrap64 (x17 * x11)) + (wrap64 (x114 * x2)))) + x18)) then (if (wrap64 ((wrap64 ((wrap64 (x17 * x11)) + (wrap64 (x114 * x2)))) + x18)) < (x302001.length : Int) then ((wide_Acc_Plus.f x326000 x326001 x326002 (rd x301001 (wrap64 ((wrap64 (x16 * x12)) + x114))) (rd x302001 (wrap64 ((wrap64 ((wrap64 (x17 * x11)) + (wrap64 (x114 * x2)))) + x18)))).bind fun bt328 => (conv_BackKernel.l1 k x2 x3 x10 x11 x12 x15 x16 x17 x18 x96 x97 x113 (wrap64 (x114 + 1)) x301000 x301001 x302000 x302001 x325000 x325001 bt328.1 bt328.2.1 bt328.2.2)) else (none)) else (none)) else (none)) else (none)) else ((wide_Acc_Fix.f k x326000 x326001 x326002 32).bind fun t331 => (if 0 ≤ x15 then (if x15 < (x325001.length : Int) then (conv_BackKernel.l0 k x2 x3 x10 x11 x12 x96 (wrap64 (x97 + 1)) x301000 x301001 x302000 x302001 x325000 (x325001.set (x15 : Int).toNat t331)) else (none)) else (none)))
end
def conv_BackKernel.f (k : Nat) (l0_0 : List Int) (l0_1 : List Int) (l1_0 : List Int) (l1_1 : List Int) (a2 : Int) (a3 : Int) : Option (List Int × List Int × Int) := (tens_Good.f k l0_0 l0_1).bind fun t303 => (if t303 = true then ((tens_Good.f k l1_0 l1_1).bind fun t304 => (if t304 = true then ((conv_stepGood.f a2).bind fun t305 => (if t305 = true then ((conv_sized.f a3).bind fun t306 => (conv_BackKernel.j0 k a2 a3 (!t306) l0_0 l0_1 l1_0 l1_1)) else (conv_BackKernel.j0 k a2 a3 true l0_0 l0_1 l1_0 l1_1))) else (conv_BackKernel.j0 k a2 a3 true l0_0 l0_1 l1_0 l1_1))) else (conv_BackKernel.j0 k a2 a3 true l0_0 l0_1 l1_0 l1_1))
theorem conv_BackKernel.mono_l : ∀ k, (∀ y0 y1 y2 y3 y4 y5 y6, LeO (conv_BackKernel.j0 k y0 y1 y2 y3 y4 y5 y6) (conv_BackKernel.j0 (k + 1) y0 y1 y2 y3 y4 y5 y6)) ∧ (∀ y0 y1 y2 y3 y4 y5 y6 y7 y8 y9 y10 y11 y12, LeO (conv_BackKernel.l0 k y0 y1 y2 y3 y4 y5 y6 y7 y8 y9 y10 y11 y12) (conv_BackKernel.l0 (k + 1) y0 y1 y2 y3 y4 y5 y6 y7 y8 y9 y10 y11 y12)) ∧ (∀ y0 y1 y2 y3 y4 y5 y6 y7 y8 y9 y10 y11 y12 y13 y14 y15 y16 y17 y18 y19 y20 y21, LeO (conv_BackKernel.l1 k y0 y1 y2 y3 y4 y5 y6 y7 y8 y9 y10 y11 y12 y13 y14 y15 y16 y17 y18 y19 y20 y21) (conv_BackKernel.l1 (k + 1) y0 y1 y2 y3 y4 y5 y6 y7 y8 y9 y10 y11 y12 y13 y14 y15 y16 y17 y18 y19 y20 y21))
 | 0 => ⟨fun _ _ _ _ _ _ _ r h => by simp [conv_BackKernel.j0] at h, fun _ _ _ _ _ _ _ _ _ _ _ _ _ r h => by simp [conv_BackKernel.l0] at h, fun _ _ _ _ _ _ _ _ _ _ _ _ _ _ _ _ _ _ _ _ _ _ r h => by simp [conv_BackKernel.l1] at h⟩
 | k + 1 => by
  obtain ⟨ih0, ih1, ih2⟩ := conv_BackKernel.mono_l k
  refine ⟨?_, ?_, ?_⟩
  ·intro y0 y1 y2 y3 y4 y5 y6
   unfold conv_BackKernel.j0
   repeat' first
   | (with_reducible exact ih0 _ _ _ _ _ _ _)
   | (with_reducible exact ih1 _ _ _ _ _ _ _ _ _ _ _ _ _)
   | (with_reducible exact ih2 _ _ _ _ _ _ _ _ _ _ _ _ _ _ _ _ _ _ _ _ _ _)
   | (with_reducible exact conv_of.mono _ _)
   | (with_reducible exact LeO.refl _)
   | (with_reducible exact LeO.none _)
   | (with_reducible refine LeO.ite ?_ ?_)
   | (with_reducible refine LeO.bind ?_ (fun _ => ?_))
   | exact ih0 _ _ _ _ _ _ _
   | exact ih1 _ _ _ _ _ _ _ _ _ _ _ _ _
   | exact ih2 _ _ _ _ _ _ _ _ _ _ _ _ _ _ _ _ _ _ _ _ _ _
   | exact conv_of.mono _ _
   | exact LeO.none _
   | refine LeO.ite ?_ ?_
   | refine LeO.bind ?_ (fun _ => ?_)
  ·intro y0 y1 y2 y3 y4 y5 y6 y7 y8 y9 y10 y11 y12
   unfold conv_BackKernel.l0
   repeat' first
   | (with_reducible exact ih0 _ _ _ _ _ _ _)
   | (with_reducible exact ih1 _ _ _ _ _ _ _ _ _ _ _ _ _)
   | (with_reducible exact ih2 _ _ _ _ _ _ _ _ _ _ _ _ _ _ _ _ _ _ _ _ _ _)
   | (with_reducible exact LeO.refl _)
   | (with_reducible exact LeO.none _)
   | (with_reducible refine LeO.ite ?_ ?_)
   | (with_reducible refine LeO.bind ?_ (fun _ => ?_))
   | exact ih0 _ _ _ _ _ _ _
   | exact ih1 _ _ _ _ _ _ _ _ _ _ _ _ _
   | exact ih2 _ _ _ _ _ _ _ _ _ _ _ _ _ _ _ _ _ _ _ _ _ _
   | exact LeO.none _
   | refine LeO.ite ?_ ?_
   | refine LeO.bind ?_ (fun _ => ?_)
  ·intro y0 y1 y2 y3 y4 y5 y6 y7 y8 y9 y10 y11 y12 y13 y14 y15 y16 y17 y18 y19 y20 y21
   unfold conv_BackKernel.l1
   repeat' first
   | (with_reducible exact ih0 _ _ _ _ _ _ _)
   | (with_reducible exact ih1 _ _ _ _ _ _ _ _ _ _ _ _ _)
   | (with_reducible exact ih2 _ _ _ _ _ _ _ _ _ _ _ _ _ _ _ _ _ _ _ _ _ _)
   | (with_reducible exact wide_Acc_Fix.mono _ _ _ _ _)
   | (with_reducible exact LeO.refl _)
   | (with_reducible exact LeO.none _)
   | (with_reducible refine LeO.ite ?_ ?_)
   | (with_reducible refine LeO.bind ?_ (fun _ => ?_))
   | exact ih0 _ _ _ _ _ _ _
   | exact ih1 _ _ _ _ _ _ _ _ _ _ _ _ _
   | exact ih2 _ _ _ _ _ _ _ _ _ _ _ _ _ _ _ _ _ _ _ _ _ _
   | exact wide_Acc_Fix.mono _ _ _ _ _
   | exact LeO.none _
   | refine LeO.ite ?_ ?_
   | refine LeO.bind ?_ (fun _ => ?_)
theorem conv_BackKernel.mono : ∀ a0 a1 a2 a3 a4 a5 k, LeO (conv_BackKernel.f k a0 a1 a2 a3 a4 a5) (conv_BackKernel.f (k + 1) a0 a1 a2 a3 a4 a5) := by
 intro a0 a1 a2 a3 a4 a5 k
 obtain ⟨ih0, ih1, ih2⟩ := conv_BackKernel.mono_l k
 unfold conv_BackKernel.f
 repeat' first
   | (with_reducible exact ih0 _ _ _ _ _ _ _)
   | (with_reducible exact ih1 _ _ _ _ _ _ _ _ _ _ _ _ _)
   | (with_reducible exact ih2 _ _ _ _ _ _ _ _ _ _ _ _ _ _ _ _ _ _ _ _ _ _)
   | (with_reducible exact tens_Good.mono _ _ _)
   | (with_reducible exact LeO.refl _)
   | (with_reducible exact LeO.none _)
   | (with_reducible refine LeO.ite ?_ ?_)
   | (with_reducible refine LeO.bind ?_ (fun _ => ?_))
   | exact ih0 _ _ _ _ _ _ _
   | exact ih1 _ _ _ _ _ _ _ _ _ _ _ _ _
   | exact ih2 _ _ _ _ _ _ _ _ _ _ _ _ _ _ _ _ _ _ _ _ _ _
   | exact tens_Good.mono _ _ _
   | exact LeO.none _
   | refine LeO.ite ?_ ?_
   | refine LeO.bind ?_ (fun _ => ?_)
def conv_BackKernel.T3 : Bool × List (List Nat × List Nat) := (true, [([], []), ([0], [0]), ([1], [1]), ([2], [2]), ([3], [3]), ([4], [4]), ([5, 4], [4, 5]), ([6, 4], [4, 6]), ([7, 4], [4, 7]), ([4, 8], [4, 8]), ([9, 4], [9]), ([10], [10]), ([11, 10], [10, 11]), ([12, 10], [10, 12]), ([13, 10], [10, 13]), ([10], [10]), ([10], [10]), ([14, 15, 16, 10, 10], [10, 14, 15, 16]), ([10], [10]), ([18, 10], [10, 18]), ([19, 10], [10, 19]), ([20, 10], [10, 20]), ([17, 21, 10], [10, 17, 21]), ([10, 22], [10, 22]), ([23, 17], [23])])
def conv_BackKernel.B3 : List Nat := [0, 1, 3, 7, 15, 31, 63, 127, 255, 511, 1023, 2047, 4095, 8191, 16383, 2047, 2047, 131071, 2047, 264191, 788479, 1837055, 4194303, 8388607, 16777215]
theorem conv_BackKernel.tab3 : rtab .any (opsOf Try.f24 3) = conv_BackKernel.T3 := by kernel_rfl
theorem conv_BackKernel.bits3 : waitsOk conv_BackKernel.T3.2 conv_BackKernel.B3 = true := by kernel_rfl
def conv_BackKernel.T5 : Bool × List (List Nat × List Nat) := (true, [([], []), ([0], [0]), ([1], [1]), ([2], [2]), ([], []), ([4], [4]), ([5], [5]), ([6], [6]), ([], []), ([8], [8]), ([9], [9]), ([10], [10]), ([3, 0, 1, 2, 3], [3]), ([7, 12, 0, 1, 2, 3, 4, 5, 6, 7, 12], [7]), ([11, 13, 0, 1, 2, 3, 4, 5, 6, 7, 8, 9, 10, 11, 12, 13], [11])])
def conv_BackKernel.B5 : List Nat := [0, 1, 3, 7, 0, 16, 48, 112, 0, 256, 768, 1792, 15, 4351, 16383]
theorem conv_BackKernel.tab5 : rtab .any (opsOf Try.f24 5) = conv_BackKernel.T5 := by kernel_rfl
theorem conv_BackKernel.bits5 : waitsOk conv_BackKernel.T5.2 conv_BackKernel.B5 = true := by kernel_rfl
def conv_BackKernel.T12 : Bool × List (List Nat × List Nat) := (true, [([], []), ([], []), ([], []), ([1, 2], [1, 2]), ([0, 3], [0, 3]), ([], []), ([], []), ([5, 6], [5, 6]), ([], []), ([7, 8], [7, 8]), ([], []), ([], []), ([10, 11], [10, 11]), ([4, 0, 1, 2, 3, 4], [4]), ([9, 13, 0, 1, 2, 3, 4, 5, 6, 7, 8, 9, 13], [9]), ([12, 14, 0, 1, 2, 3, 4, 5, 6, 7, 8, 9, 10, 11, 12, 13, 14], [12])])
def conv_BackKernel.B12 : List Nat := [0, 0, 0, 6, 15, 0, 0, 96, 0, 480, 0, 0, 3072, 31, 9215, 32767]
theorem conv_BackKernel.tab12 : rtab .any (opsOf Try.f24 12) = conv_BackKernel.T12 := by kernel_rfl
theorem conv_BackKernel.bits12 : waitsOk conv_BackKernel.T12.2 conv_BackKernel.B12 = true := by kernel_rfl
def conv_BackKernel.T17 : Bool × List (List Nat × List Nat) := (true, [([], []), ([0], [0]), ([], []), ([], []), ([2, 3], [2, 3]), ([], []), ([4, 5], [4, 5]), ([1, 6], [1, 6]), ([7], [7]), ([], []), ([9], [9]), ([], []), ([], []), ([11, 12], [11, 12]), ([], []), ([], []), ([14, 15], [14, 15]), ([13, 16], [13, 16]), ([], []), ([17, 18], [17, 18]), ([10, 19], [10, 19]), ([20], [20]), ([8, 21], [8, 21])])
def conv_BackKernel.B17 : List Nat := [0, 1, 0, 0, 12, 0, 60, 127, 255, 0, 512, 0, 0, 6144, 0, 0, 49152, 129024, 0, 522240, 1048064, 2096640, 4194303]
theorem conv_BackKernel.tab17 : rtab .any (opsOf Try.f24 17) = conv_BackKernel.T17 := by kernel_rfl
theorem conv_BackKernel.bits17 : waitsOk conv_BackKernel.T17.2 conv_BackKernel.B17 = true := by kernel_rfl
set_option maxHeartbeats 8000000 in
set_option maxRecDepth 100000 in
theorem conv_BackKernel.calls (k : Nat) (A0_0 : Option Addr) (c0_0 : Nat) (l0_0 : List Int) (A0_1 : Option Addr) (c0_1 : Nat) (l0_1 : List Int) (A1_0 : Option Addr) (c1_0 : Nat) (l1_0 : List Int) (A1_1 : Option Addr) (c1_1 : Nat) (l1_1 : List Int) (a2 : Int) (a3 : Int) (r1 : List Int) (r2 : List Int) (r3 : Int) (w : World) (hr0_0 : Kd.C (Kd.int .i64) w A0_0 l0_0.length l0_0) (hc0_0 : l0_0.length ≤ c0_0) (hr0_1 : Kd.C (Kd.int .i64) w A0_1 l0_1.length l0_1) (hc0_1 : l0_1.length ≤ c0_1) (hr1_0 : Kd.C (Kd.int .i64) w A1_0 l1_0.length l1_0) (hc1_0 : l1_0.length ≤ c1_0) (hr1_1 : Kd.C (Kd.int .i64) w A1_1 l1_1.length l1_1) (hc1_1 : l1_1.length ≤ c1_1) (h : conv_BackKernel.f k l0_0 l0_1 l1_0 l1_1 a2 a3 = some (r1, r2, r3)) :
  Calls Try.prog 24 #[.agg #[.slice A0_0 l0_0.length c0_0, .slice A0_1 l0_1.length c0_1], .agg #[.slice A1_0 l1_0.length c1_0, .slice A1_1 l1_1.length c1_1], .int .i64 a2, .int .i64 a3] w fun e w' => ∃ v0_ v1_ : Value, e = .returned (.tuple #[.agg #[v0_, v1_], .int .i64 r3]) ∧ Kd.R (Kd.int .i64) 3 w' w.heap.size (fun _ => True) v0_ r1 ∧ Kd.R (Kd.int .i64) 33 w' w.heap.size (fun _ => True) v1_ r2 ∧ Below w.heap.size w w' := by
 have hu25 := Try.underlying25
 have hu54 := Try.underlying54
 have HR0_0 := Aside0.mk hr0_0
 have HC0_0 := Aside0.mk hc0_0
 clear hr0_0 hc0_0
 have HR0_1 := Aside0.mk hr0_1
 have HC0_1 := Aside0.mk hc0_1
 clear hr0_1 hc0_1
 have HR1_0 := Aside0.mk hr1_0
 have HC1_0 := Aside0.mk hc1_0
 clear hr1_0 hc1_0
 have HR1_1 := Aside0.mk hr1_1
 have HC1_1 := Aside0.mk hc1_1
 clear hr1_1 hc1_1
 have HB := Aside0.mk (Below.refl w.heap.size w)
 have H : ((tens_Good.f k l0_0 l0_1).bind fun t303 => (if t303 = true then ((tens_Good.f k l1_0 l1_1).bind fun t304 => (if t304 = true then ((conv_stepGood.f a2).bind fun t305 => (if t305 = true then ((conv_sized.f a3).bind fun t306 => (conv_BackKernel.j0 k a2 a3 (!t306) l0_0 l0_1 l1_0 l1_1)) else (conv_BackKernel.j0 k a2 a3 true l0_0 l0_1 l1_0 l1_1))) else (conv_BackKernel.j0 k a2 a3 true l0_0 l0_1 l1_0 l1_1))) else (conv_BackKernel.j0 k a2 a3 true l0_0 l0_1 l1_0 l1_1))) = some (r1, r2, r3) := h
 clear h
 have HC5 := Aside0.mk H
 clear H
 go_enter Try.func24, Try.ntmps24
 go_upto_region 1 with (first | ((with_reducible refine gate_dst (N := 4) rfl ?_); (try (refine gate_guard (by rfl) ?_; dsimp only)); refine box_event ?hg (N := 4) ?hd (cs := #[.slice A0_0 l0_0.length c0_0, .slice A0_1 l0_1.length c0_1]) (t := 25) ?hr ?_; (case hd => rfl); (case hg => rfl); (case hr => first | (go_simp; done) | (go_simp; rfl)); intro gb300 hg w6 hbox hb; have BK300 := Aside0.mk (hbox); have GW300 := Aside0.mk (zs_ hg (zw0_ HB)); have GE300 := Aside0.mk (zs_ hg (zw0_ HB)); replace HB := Aside0.mk (below_step (zw0_ HB) hb); clear hb hbox hg) | ((with_reducible refine gate_dst (N := 5) rfl ?_); (try (refine gate_guard (by rfl) ?_; dsimp only)); refine box_event ?hg (N := 5) ?hd (cs := #[.slice A1_0 l1_0.length c1_0, .slice A1_1 l1_1.length c1_1]) (t := 25) ?hr ?_; (case hd => rfl); (case hg => rfl); (case hr => first | (go_simp; done) | (go_simp; rfl)); intro gb301 hg w7 hbox hb; have BK301 := Aside0.mk (hbox); have GW301 := Aside0.mk (zs_ hg (zw1_ HB GE300)); have GE301 := Aside0.mk (zs_ hg (zw1_ HB GE300)); replace HB := Aside0.mk (below_step (zw1_ HB GE300) hb); have NB300_301 := Aside0.mk (zn_ hg BK300); have NB301_300 := Aside0.mk (zm_ hg BK300); replace BK300 := za_ BK300 hb; clear hb hbox hg) | ((with_reducible refine gate_dst (N := 8) rfl ?_); (try (refine gate_guard (by rfl) ?_; dsimp only)); refine box_event ?hg (N := 8) ?hd (cs := #[.slice none 0 0, .slice none 0 0]) (t := 25) ?hr ?_; (case hd => rfl); (case hg => rfl); (case hr => first | (go_simp; done) | (go_simp; rfl)); intro gb302 hg w8 hbox hb; have BK302 := Aside0.mk (hbox); have GW302 := Aside0.mk (zs_ hg (zw2_ HB GE300 GE301)); have GE302 := Aside0.mk (zs_ hg (zw2_ HB GE300 GE301)); replace HB := Aside0.mk (below_step (zw2_ HB GE300 GE301) hb); have NB300_302 := Aside0.mk (zn_ hg BK300); have NB302_300 := Aside0.mk (zm_ hg BK300); replace BK300 := za_ BK300 hb; have NB301_302 := Aside0.mk (zn_ hg BK301); have NB302_301 := Aside0.mk (zm_ hg BK301); replace BK301 := za_ BK301 hb; clear hb hbox hg))
 (try simp only [Act.put, List.setIfInBounds_toArray, List.set_cons_zero, List.set_cons_succ])
 go_cut [21] (fun v21 wc => ∃ (kq : Nat) (x21_4 : Bool), v21 = .bool x21_4 ∧ Aside0 (conv_BackKernel.j0 kq a2 a3 x21_4 l0_0 l0_1 l1_0 l1_1 = some (r1, r2, r3)) ∧ Aside0 (kq ≤ k) ∧ Aside0 (wc.heap[gb300]? = some (.cells #[(.slice A0_0 l0_0.length c0_0), (.slice A0_1 l0_1.length c0_1)] 25 (0, 0))) ∧ Aside0 (wc.heap[gb301]? = some (.cells #[(.slice A1_0 l1_0.length c1_0), (.slice A1_1 l1_1.length c1_1)] 25 (0, 0))) ∧ Aside0 (wc.heap[gb302]? = some (.cells #[(.slice none 0 0), (.slice none 0 0)] 25 (0, 0))) ∧ Aside0 (Below w.heap.size w wc))
 case first =>
  have H := HC5.out
  clear HC5
  replace H := Option.bind_eq_some_iff.mp H
  obtain ⟨t303, A90, H⟩ := H
  (try dsimp only at H)
  have A9 := Aside0.mk A90
  clear A90
  by_cases c10 : t303 = true
  rotate_left
  ·replace c10 := Bool.eq_false_iff.mpr c10
   subst c10
   have H1 : (conv_BackKernel.j0 k a2 a3 true l0_0 l0_1 l1_0 l1_1) = some (r1, r2, r3) := by rw [if_neg (show ¬ (false = true) by decide)] at H; exact H
   clear H
   have H := H1
   clear H1
   have H' := Aside0.mk H
   clear H
   have hnb37 := NB300_301.out
   have hnc37 := NB301_300.out
   have hnb38 := NB300_302.out
   have hnc38 := NB302_300.out
   have hcz39_0 := zx_ (v := .slice A0_0 l0_0.length c0_0) BK300 0
   have hcz39_1 := zx_ (v := .slice A0_1 l0_1.length c0_1) BK300 1
   have hfz39_0 := blk_frozen BK300.out 0
   have hfz39_1 := blk_frozen BK300.out 1
   go_wp2_with (first | ((with_reducible refine gate_callee (f := 26) rfl ?_); refine zg_ (some 23) Try.func26 #[.agg #[.slice A0_0 l0_0.length c0_0, .slice A0_1 l0_1.length c0_1]] (h := ?_); (with_reducible refine (tens_Good.calls k _ _ l0_0 _ _ l0_1 false _ ?side1 ?side2 ?side3 ?side4 A9.out).mono ?_); (case side1 => exact zk_ (Kd.C_below HR0_0.out HB.out)); (case side2 => exact HC0_0.out); (case side3 => exact zk_ (Kd.C_below HR0_1.out HB.out)); (case side4 => exact HC0_1.out); rintro e w40 ⟨rfl, hb⟩; refine ⟨_, rfl, ?_⟩; replace BK300 := za_ BK300 hb; replace BK301 := za_ BK301 hb; replace BK302 := za_ BK302 hb; replace HB := Aside0.mk (below_step (zw3_ HB GE300 GE301 GE302) hb); (try clear hb)))
   go_meet
   case rel => exact ⟨_, (true), z1_, H', ⟨by first | omega | exact Nat.le_refl _⟩, ⟨zb_ BK300⟩, ⟨zb_ BK301⟩, ⟨zb_ BK302⟩, ⟨zw3_ HB GE300 GE301 GE302⟩⟩
  subst c10
  have H1 := H
  rw [if_pos rfl] at H1
  clear H
  have H := H1
  clear H1
  replace H := Option.bind_eq_some_iff.mp H
  obtain ⟨t304, A110, H⟩ := H
  (try dsimp only at H)
  have A11 := Aside0.mk A110
  clear A110
  by_cases c12 : t304 = true
  rotate_left
  ·replace c12 := Bool.eq_false_iff.mpr c12
   subst c12
   have H1 : (conv_BackKernel.j0 k a2 a3 true l0_0 l0_1 l1_0 l1_1) = some (r1, r2, r3) := by rw [if_neg (show ¬ (false = true) by decide)] at H; exact H
   clear H
   have H := H1
   clear H1
   have H' := Aside0.mk H
   clear H
   have hnb30 := NB300_301.out
   have hnc30 := NB301_300.out
   have hnb31 := NB300_302.out
   have hnc31 := NB302_300.out
   have hcz32_0 := zx_ (v := .slice A0_0 l0_0.length c0_0) BK300 0
   have hcz32_1 := zx_ (v := .slice A0_1 l0_1.length c0_1) BK300 1
   have hfz32_0 := blk_frozen BK300.out 0
   have hfz32_1 := blk_frozen BK300.out 1
   go_wp2_with (first | ((with_reducible refine gate_callee (f := 26) rfl ?_); refine zg_ (some 23) Try.func26 #[.agg #[.slice A0_0 l0_0.length c0_0, .slice A0_1 l0_1.length c0_1]] (h := ?_); (with_reducible refine (tens_Good.calls k _ _ l0_0 _ _ l0_1 true _ ?side1 ?side2 ?side3 ?side4 A9.out).mono ?_); (case side1 => exact zk_ (Kd.C_below HR0_0.out HB.out)); (case side2 => exact HC0_0.out); (case side3 => exact zk_ (Kd.C_below HR0_1.out HB.out)); (case side4 => exact HC0_1.out); rintro e w33 ⟨rfl, hb⟩; refine ⟨_, rfl, ?_⟩; replace BK300 := za_ BK300 hb; replace BK301 := za_ BK301 hb; replace BK302 := za_ BK302 hb; replace HB := Aside0.mk (below_step (zw3_ HB GE300 GE301 GE302) hb); (try clear hb); have hnb34 := NB301_302.out; have hnc34 := NB302_301.out; have hcz35_0 := zx_ (v := .slice A1_0 l1_0.length c1_0) BK301 0; have hcz35_1 := zx_ (v := .slice A1_1 l1_1.length c1_1) BK301 1; have hfz35_0 := blk_frozen BK301.out 0; have hfz35_1 := blk_frozen BK301.out 1) | (go_at_call 26; (with_reducible refine (tens_Good.calls k _ _ l1_0 _ _ l1_1 false _ ?side1 ?side2 ?side3 ?side4 A11.out).mono ?_); (case side1 => exact zk_ (Kd.C_below HR1_0.out HB.out)); (case side2 => exact HC1_0.out); (case side3 => exact zk_ (Kd.C_below HR1_1.out HB.out)); (case side4 => exact HC1_1.out); rintro e w36 ⟨rfl, hb⟩; replace BK300 := za_ BK300 hb; replace BK301 := za_ BK301 hb; replace BK302 := za_ BK302 hb; replace HB := Aside0.mk (below_step (zw3_ HB GE300 GE301 GE302) hb); (try clear hb)))
   go_meet
   case rel => exact ⟨_, (true), z1_, H', ⟨by first | omega | exact Nat.le_refl _⟩, ⟨zb_ BK300⟩, ⟨zb_ BK301⟩, ⟨zb_ BK302⟩, ⟨zw3_ HB GE300 GE301 GE302⟩⟩
  subst c12
  have H1 := H
  rw [if_pos rfl] at H1
  clear H
  have H := H1
  clear H1
  replace H := Option.bind_eq_some_iff.mp H
  obtain ⟨t305, A130, H⟩ := H
  (try dsimp only at H)
  have A13 := Aside0.mk A130
  clear A130
  by_cases c14 : t305 = true
  rotate_left
  ·replace c14 := Bool.eq_false_iff.mpr c14
   subst c14
   have H1 : (conv_BackKernel.j0 k a2 a3 true l0_0 l0_1 l1_0 l1_1) = some (r1, r2, r3) := by rw [if_neg (show ¬ (false = true) by decide)] at H; exact H
   clear H
   have H := H1
   clear H1
   have H' := Aside0.mk H
   clear H
   have hnb23 := NB300_301.out
   have hnc23 := NB301_300.out
   have hnb24 := NB300_302.out
   have hnc24 := NB302_300.out
   have hcz25_0 := zx_ (v := .slice A0_0 l0_0.length c0_0) BK300 0
   have hcz25_1 := zx_ (v := .slice A0_1 l0_1.length c0_1) BK300 1
   have hfz25_0 := blk_frozen BK300.out 0
   have hfz25_1 := blk_frozen BK300.out 1
   go_wp2_with (first | ((with_reducible refine gate_callee (f := 26) rfl ?_); refine zg_ (some 23) Try.func26 #[.agg #[.slice A0_0 l0_0.length c0_0, .slice A0_1 l0_1.length c0_1]] (h := ?_); (with_reducible refine (tens_Good.calls k _ _ l0_0 _ _ l0_1 true _ ?side1 ?side2 ?side3 ?side4 A9.out).mono ?_); (case side1 => exact zk_ (Kd.C_below HR0_0.out HB.out)); (case side2 => exact HC0_0.out); (case side3 => exact zk_ (Kd.C_below HR0_1.out HB.out)); (case side4 => exact HC0_1.out); rintro e w26 ⟨rfl, hb⟩; refine ⟨_, rfl, ?_⟩; replace BK300 := za_ BK300 hb; replace BK301 := za_ BK301 hb; replace BK302 := za_ BK302 hb; replace HB := Aside0.mk (below_step (zw3_ HB GE300 GE301 GE302) hb); (try clear hb); have hnb27 := NB301_302.out; have hnc27 := NB302_301.out; have hcz28_0 := zx_ (v := .slice A1_0 l1_0.length c1_0) BK301 0; have hcz28_1 := zx_ (v := .slice A1_1 l1_1.length c1_1) BK301 1; have hfz28_0 := blk_frozen BK301.out 0; have hfz28_1 := blk_frozen BK301.out 1) | (go_at_call 26; (with_reducible refine (tens_Good.calls k _ _ l1_0 _ _ l1_1 true _ ?side1 ?side2 ?side3 ?side4 A11.out).mono ?_); (case side1 => exact zk_ (Kd.C_below HR1_0.out HB.out)); (case side2 => exact HC1_0.out); (case side3 => exact zk_ (Kd.C_below HR1_1.out HB.out)); (case side4 => exact HC1_1.out); rintro e w29 ⟨rfl, hb⟩; replace BK300 := za_ BK300 hb; replace BK301 := za_ BK301 hb; replace BK302 := za_ BK302 hb; replace HB := Aside0.mk (below_step (zw3_ HB GE300 GE301 GE302) hb); (try clear hb)) | (go_at_call 27; (with_reducible refine (conv_stepGood.calls a2 false _ A13.out).mono ?_); rintro e w' ⟨rfl, ⟨nd, rfl⟩⟩))
   go_meet
   case rel => exact ⟨_, (true), z1_, H', ⟨by first | omega | exact Nat.le_refl _⟩, ⟨zb_ BK300⟩, ⟨zb_ BK301⟩, ⟨zb_ BK302⟩, ⟨zw3_ HB GE300 GE301 GE302⟩⟩
  subst c14
  have H1 := H
  rw [if_pos rfl] at H1
  clear H
  have H := H1
  clear H1
  replace H := Option.bind_eq_some_iff.mp H
  obtain ⟨t306, A150, H⟩ := H
  replace H : (conv_BackKernel.j0 k a2 a3 (!t306) l0_0 l0_1 l1_0 l1_1) = some (r1, r2, r3) := H
  have A15 := Aside0.mk A150
  clear A150
  have H' := Aside0.mk H
  clear H
  have hnb16 := NB300_301.out
  have hnc16 := NB301_300.out
  have hnb17 := NB300_302.out
  have hnc17 := NB302_300.out
  have hcz18_0 := zx_ (v := .slice A0_0 l0_0.length c0_0) BK300 0
  have hcz18_1 := zx_ (v := .slice A0_1 l0_1.length c0_1) BK300 1
  have hfz18_0 := blk_frozen BK300.out 0
  have hfz18_1 := blk_frozen BK300.out 1
  go_wp2_with (first | ((with_reducible refine gate_callee (f := 26) rfl ?_); refine zg_ (some 23) Try.func26 #[.agg #[.slice A0_0 l0_0.length c0_0, .slice A0_1 l0_1.length c0_1]] (h := ?_); (with_reducible refine (tens_Good.calls k _ _ l0_0 _ _ l0_1 true _ ?side1 ?side2 ?side3 ?side4 A9.out).mono ?_); (case side1 => exact zk_ (Kd.C_below HR0_0.out HB.out)); (case side2 => exact HC0_0.out); (case side3 => exact zk_ (Kd.C_below HR0_1.out HB.out)); (case side4 => exact HC0_1.out); rintro e w19 ⟨rfl, hb⟩; refine ⟨_, rfl, ?_⟩; replace BK300 := za_ BK300 hb; replace BK301 := za_ BK301 hb; replace BK302 := za_ BK302 hb; replace HB := Aside0.mk (below_step (zw3_ HB GE300 GE301 GE302) hb); (try clear hb); have hnb20 := NB301_302.out; have hnc20 := NB302_301.out; have hcz21_0 := zx_ (v := .slice A1_0 l1_0.length c1_0) BK301 0; have hcz21_1 := zx_ (v := .slice A1_1 l1_1.length c1_1) BK301 1; have hfz21_0 := blk_frozen BK301.out 0; have hfz21_1 := blk_frozen BK301.out 1) | (go_at_call 26; (with_reducible refine (tens_Good.calls k _ _ l1_0 _ _ l1_1 true _ ?side1 ?side2 ?side3 ?side4 A11.out).mono ?_); (case side1 => exact zk_ (Kd.C_below HR1_0.out HB.out)); (case side2 => exact HC1_0.out); (case side3 => exact zk_ (Kd.C_below HR1_1.out HB.out)); (case side4 => exact HC1_1.out); rintro e w22 ⟨rfl, hb⟩; replace BK300 := za_ BK300 hb; replace BK301 := za_ BK301 hb; replace BK302 := za_ BK302 hb; replace HB := Aside0.mk (below_step (zw3_ HB GE300 GE301 GE302) hb); (try clear hb)) | (go_at_call 27; (with_reducible refine (conv_stepGood.calls a2 true _ A13.out).mono ?_); rintro e w' ⟨rfl, ⟨nd, rfl⟩⟩) | (go_at_call 39; (with_reducible refine (conv_sized.calls a3 t306 _ A15.out).mono ?_); rintro e w' ⟨rfl, ⟨nd, rfl⟩⟩))
  go_meet
  case rel => exact ⟨_, (!t306), z1_, H', ⟨by first | omega | exact Nat.le_refl _⟩, ⟨zb_ BK300⟩, ⟨zb_ BK301⟩, ⟨zb_ BK302⟩, ⟨zw3_ HB GE300 GE301 GE302⟩⟩
 case rest =>
  clear HC5
  try clear c1
  try clear c2
  try clear p2
  try clear c3
  try clear c10
  try clear c12
  try clear c14
  try clear c16
  try clear c17
  try clear c20
  try clear c23
  try clear c24
  try clear c26
  try clear c27
  try clear c30
  try clear c31
  try clear c34
  try clear c37
  try clear c38
  try clear hcz18_0
  try clear hcz18_1
  try clear hcz21_0
  try clear hcz21_1
  try clear hcz25_0
  try clear hcz25_1
  try clear hcz28_0
  try clear hcz28_1
  try clear hcz32_0
  try clear hcz32_1
  try clear hcz35_0
  try clear hcz35_1
  try clear hcz39_0
  try clear hcz39_1
  try clear hfz18_0
  try clear hfz18_1
  try clear hfz21_0
  try clear hfz21_1
  try clear hfz25_0
  try clear hfz25_1
  try clear hfz28_0
  try clear hfz28_1
  try clear hfz32_0
  try clear hfz32_1
  try clear hfz35_0
  try clear hfz35_1
  try clear hfz39_0
  try clear hfz39_1
  obtain ⟨kq, x21_4, rfl, HA, HJ4, BK300, BK301, BK302, HB⟩ := hcut
  cases kq with
  | zero => exact absurd HA.out (by simp [conv_BackKernel.j0])
  | succ kj4 =>
   have H := HA.out
   clear HA
   simp only [conv_BackKernel.j0] at H
   by_cases c41 : x21_4 = true
   ·subst c41
    have H1 : (some (([] : List Int), ([] : List Int), 1)) = some (r1, r2, r3) := by rw [if_pos rfl] at H; exact H
    clear H
    have H := H1
    clear H1
    simp only [Option.some.injEq, Prod.mk.injEq] at H
    obtain ⟨rfl, rfl, rfl⟩ := H
    have hnb42 := NB302_300.out
    have hnc42 := NB300_302.out
    have hnb43 := NB302_301.out
    have hnc43 := NB301_302.out
    have hcz44_0 := zx_ (v := .slice none 0 0) BK302 0
    have hcz44_1 := zx_ (v := .slice none 0 0) BK302 1
    have hfz44_0 := blk_frozen BK302.out 0
    have hfz44_1 := blk_frozen BK302.out 1
    go_wp2
    refine bodyPost_ret (results_ct rfl _ _ gb302 25 #[.slice none 0 0, .slice none 0 0] (0, 0) _ rfl (zo2_ BK302) Try.underlying25 rfl (by kernel_rfl)) rfl ?_
    exact ⟨_, _, z0_, z2_, z2_, zw3_ HB GE300 GE301 GE302⟩
   replace c41 := Bool.eq_false_iff.mpr c41
   subst c41
   have H1 := H
   rw [if_neg (show ¬ (false = true) by decide)] at H1
   clear H
   have H := H1
   clear H1
   by_cases c45 : (l0_0.length : Int) = 2
   rotate_left
   ·rw [if_neg c45] at H
    have c45b0 : ((l0_0.length : Int) == 2) = false := beq_eq_false_iff_ne.mpr c45
    have c45b1 : ((l0_0.length : Int) != 2) = true := bne_iff_ne.mpr c45
    simp only [Option.some.injEq, Prod.mk.injEq] at H
    obtain ⟨rfl, rfl, rfl⟩ := H
    try go_wp2
    replace BK300 := Aside0.mk (blk_drew BK300.out)
    replace BK301 := Aside0.mk (blk_drew BK301.out)
    replace BK302 := Aside0.mk (blk_drew BK302.out)
    replace HB := Aside0.mk (below_drew1 HB.out)
    refine start_ (n := 25) (S := fun w' => w'.cell? ⟨gb300, 0, none⟩ = some (.slice A0_0 l0_0.length c0_0) ∧ w'.cell? ⟨gb300, 1, none⟩ = some (.slice A0_1 l0_1.length c0_1)) (ds := []) #[false, false, false, false, false, false, false, false, false, false, false, false, false, false, false, false, false, false, false, false, false, false, false, false, false] (by kernel_rfl) rfl rfl ⟨(blk_cell BK300.out 0).trans rfl, (blk_cell BK300.out 1).trans rfl⟩ (fun hHeld => ?_); refine with_tabW conv_BackKernel.tab3 conv_BackKernel.bits3 (fun HT_ HW_ => ?_)
    generalize wc.drew = w139 at BK300 BK301 BK302 HB hHeld ⊢
    refine yp_ ?_ 0 42
    refine yt2_ ?_ 1 43
    refine yp_ ?_ 2 44
    refine yp_ ?_ 3 45
    refine yp_ ?_ 4 46
    refine yu_ ?_ 5 47
    refine yu_ ?_ 6 48
    refine yu_ ?_ 7 49
    refine yu_ ?_ 8 50
    refine yp_ ?_ 9 51
    refine yp_ ?_ 10 52
    refine yu_ ?_ 11 53
    refine yu_ ?_ 12 54
    refine yu_ ?_ 13 55
    refine yu_ ?_ 14 56
    refine yu_ ?_ 15 57
    refine yu_ ?_ 16 58
    refine yu_ ?_ 17 59
    refine yu_ ?_ 18 60
    refine yu_ ?_ 19 61
    refine yu_ ?_ 20 62
    refine yu_ ?_ 21 63
    refine yu_ ?_ 22 64
    refine yp_ ?_ 23 65
    refine yp_ ?_ 24 41
    refine done_ (done_of HT_.out (by kernel_rfl)) ?_
    have hnb140 := NB302_300.out
    have hnc140 := NB300_302.out
    have hnb141 := NB302_301.out
    have hnc141 := NB301_302.out
    have hcz142_0 := zx_ (v := .slice none 0 0) BK302 0
    have hcz142_1 := zx_ (v := .slice none 0 0) BK302 1
    have hfz142_0 := blk_frozen BK302.out 0
    have hfz142_1 := blk_frozen BK302.out 1
    try go_wp2
    refine bodyPost_ret (results_ct rfl _ _ gb302 25 #[.slice none 0 0, .slice none 0 0] (0, 0) _ rfl (zo2_ BK302) Try.underlying25 rfl (by kernel_rfl)) rfl ?_
    exact ⟨_, _, z0_, z2_, z2_, zw3_ HB GE300 GE301 GE302⟩
   rw [if_pos c45] at H
   have c45b0 : ((l0_0.length : Int) == 2) = true := beq_iff_eq.mpr c45
   have c45b1 : ((l0_0.length : Int) != 2) = false := bne_eq_false_iff_eq.mpr c45
   clear c45
   by_cases c46 : (l1_0.length : Int) = 2
   rotate_left
   ·rw [if_neg c46] at H
    have c46b0 : ((l1_0.length : Int) == 2) = false := beq_eq_false_iff_ne.mpr c46
    have c46b1 : ((l1_0.length : Int) != 2) = true := bne_iff_ne.mpr c46
    simp only [Option.some.injEq, Prod.mk.injEq] at H
    obtain ⟨rfl, rfl, rfl⟩ := H
    try go_wp2
    replace BK300 := Aside0.mk (blk_drew BK300.out)
    replace BK301 := Aside0.mk (blk_drew BK301.out)
    replace BK302 := Aside0.mk (blk_drew BK302.out)
    replace HB := Aside0.mk (below_drew1 HB.out)
    refine start_ (n := 25) (S := fun w' => w'.cell? ⟨gb300, 0, none⟩ = some (.slice A0_0 l0_0.length c0_0) ∧ w'.cell? ⟨gb300, 1, none⟩ = some (.slice A0_1 l0_1.length c0_1) ∧ w'.cell? ⟨gb301, 0, none⟩ = some (.slice A1_0 l1_0.length c1_0) ∧ w'.cell? ⟨gb301, 1, none⟩ = some (.slice A1_1 l1_1.length c1_1)) (ds := []) #[false, false, false, false, false, false, false, false, false, false, false, false, false, false, false, false, false, false, false, false, false, false, false, false, false] (by kernel_rfl) rfl rfl ⟨(blk_cell BK300.out 0).trans rfl, (blk_cell BK300.out 1).trans rfl, (blk_cell BK301.out 0).trans rfl, (blk_cell BK301.out 1).trans rfl⟩ (fun hHeld => ?_); refine with_tabW conv_BackKernel.tab3 conv_BackKernel.bits3 (fun HT_ HW_ => ?_)
    generalize wc.drew = w135 at BK300 BK301 BK302 HB hHeld ⊢
    refine yp_ ?_ 0 42
    refine yt4_ ?_ 1 43
    refine yp_ ?_ 2 44
    refine yp_ ?_ 3 45
    refine yp_ ?_ 4 46
    refine yp_ ?_ 5 47
    refine yt4_ ?_ 6 48
    refine yp_ ?_ 7 49
    refine yp_ ?_ 8 50
    refine yp_ ?_ 9 51
    refine yp_ ?_ 10 52
    refine yu_ ?_ 11 53
    refine yu_ ?_ 12 54
    refine yu_ ?_ 13 55
    refine yu_ ?_ 14 56
    refine yu_ ?_ 15 57
    refine yu_ ?_ 16 58
    refine yu_ ?_ 17 59
    refine yu_ ?_ 18 60
    refine yu_ ?_ 19 61
    refine yu_ ?_ 20 62
    refine yu_ ?_ 21 63
    refine yu_ ?_ 22 64
    refine yp_ ?_ 23 65
    refine yp_ ?_ 24 41
    refine done_ (done_of HT_.out (by kernel_rfl)) ?_
    have hnb136 := NB302_300.out
    have hnc136 := NB300_302.out
    have hnb137 := NB302_301.out
    have hnc137 := NB301_302.out
    have hcz138_0 := zx_ (v := .slice none 0 0) BK302 0
    have hcz138_1 := zx_ (v := .slice none 0 0) BK302 1
    have hfz138_0 := blk_frozen BK302.out 0
    have hfz138_1 := blk_frozen BK302.out 1
    try go_wp2
    refine bodyPost_ret (results_ct rfl _ _ gb302 25 #[.slice none 0 0, .slice none 0 0] (0, 0) _ rfl (zo2_ BK302) Try.underlying25 rfl (by kernel_rfl)) rfl ?_
    exact ⟨_, _, z0_, z2_, z2_, zw3_ HB GE300 GE301 GE302⟩
   rw [if_pos c46] at H
   have c46b0 : ((l1_0.length : Int) == 2) = true := beq_iff_eq.mpr c46
   have c46b1 : ((l1_0.length : Int) != 2) = false := bne_eq_false_iff_eq.mpr c46
   clear c46
   by_cases c47 : 1 < (l1_0.length : Int)
   rotate_left
   ·rw [if_neg c47] at H
    exact absurd H (by simp)
   rw [if_pos c47] at H
   have c47b0 : decide (1 < (l1_0.length : Int)) = true := decide_eq_true c47
   have c47b1 : decide (1 < l1_0.length) = true := decide_eq_true (by omega)
   clear c47
   replace H := Option.bind_eq_some_iff.mp H
   obtain ⟨t308, A480, H⟩ := H
   (try dsimp only at H)
   have A48 := Aside0.mk A480
   clear A480
   by_cases c49 : 1 < (l0_0.length : Int)
   rotate_left
   ·rw [if_neg c49] at H
    exact absurd H (by simp)
   rw [if_pos c49] at H
   have c49b0 : decide (1 < (l0_0.length : Int)) = true := decide_eq_true c49
   have c49b1 : decide (1 < l0_0.length) = true := decide_eq_true (by omega)
   clear c49
   by_cases c50 : t308 = (rd l0_0 1)
   rotate_left
   ·rw [if_neg c50] at H
    have c50b0 : (t308 == (rd l0_0 1)) = false := beq_eq_false_iff_ne.mpr c50
    have c50b1 : (t308 != (rd l0_0 1)) = true := bne_iff_ne.mpr c50
    simp only [Option.some.injEq, Prod.mk.injEq] at H
    obtain ⟨rfl, rfl, rfl⟩ := H
    try go_wp2
    replace BK300 := Aside0.mk (blk_drew BK300.out)
    replace BK301 := Aside0.mk (blk_drew BK301.out)
    replace BK302 := Aside0.mk (blk_drew BK302.out)
    replace HB := Aside0.mk (below_drew1 HB.out)
    have p307 : 0 ≤ (1 : Int) := (by omega)
    have q307 : 1 < (l1_0.length : Int) := of_decide_eq_true (by first | (with_reducible assumption) | assumption)
    obtain ⟨ad307, e307, hx307_0⟩ := Kd.at_int HR1_0.out 1 p307 q307
    have hw307_0 := hx307_0
    (try rw [show ((1 : Int)).toNat = 1 from rfl] at hw307_0)
    (try rw [show 1 * 1 = 1 from rfl] at hw307_0)
    (try simp only [Nat.reduceMul, Nat.reduceEqDiff, Go.Addr.add, ↓reduceIte] at hw307_0)
    cases e307
    (try simp only [show (1 : Int).toNat = 1 from rfl, Nat.reduceMul, Nat.reduceEqDiff, Go.Addr.add, ↓reduceIte] at hx307_0)
    have qi307 : (1 < l1_0.length) = True := eq_true (by omega)
    (try rw [show ((1 : Int)).toNat = 1 from rfl] at hx307_0)
    replace hx307_0 := (HB.out.cell (World.block_lt_of_cell? w _ hx307_0)).trans hx307_0
    replace p307 := eq_true p307
    replace q307 := eq_true q307
    have p309 : 0 ≤ (1 : Int) := (by omega)
    have q309 : 1 < (l0_0.length : Int) := of_decide_eq_true (by first | (with_reducible assumption) | assumption)
    obtain ⟨ad309, e309, hx309_0⟩ := Kd.at_int HR0_0.out 1 p309 q309
    have hw309_0 := hx309_0
    (try rw [show ((1 : Int)).toNat = 1 from rfl] at hw309_0)
    (try rw [show 1 * 1 = 1 from rfl] at hw309_0)
    (try simp only [Nat.reduceMul, Nat.reduceEqDiff, Go.Addr.add, ↓reduceIte] at hw309_0)
    cases e309
    (try simp only [show (1 : Int).toNat = 1 from rfl, Nat.reduceMul, Nat.reduceEqDiff, Go.Addr.add, ↓reduceIte] at hx309_0)
    have qi309 : (1 < l0_0.length) = True := eq_true (by omega)
    (try rw [show ((1 : Int)).toNat = 1 from rfl] at hx309_0)
    replace hx309_0 := (HB.out.cell (World.block_lt_of_cell? w _ hx309_0)).trans hx309_0
    replace p309 := eq_true p309
    replace q309 := eq_true q309
    refine start_ (n := 25) (S := fun w' => w'.cell? ⟨gb300, 0, none⟩ = some (.slice (some ad309) l0_0.length c0_0) ∧ w'.cell? ⟨gb300, 1, none⟩ = some (.slice A0_1 l0_1.length c0_1) ∧ w'.cell? ⟨gb301, 0, none⟩ = some (.slice (some ad307) l1_0.length c1_0) ∧ w'.cell? ⟨gb301, 1, none⟩ = some (.slice A1_1 l1_1.length c1_1) ∧ w'.cell? ⟨ad307.block, ad307.off + 1, none⟩ = some (.int .i64 (rd l1_0 1)) ∧ w'.cell? ⟨ad309.block, ad309.off + 1, none⟩ = some (.int .i64 (rd l0_0 1))) (ds := []) #[false, false, false, false, false, false, false, false, false, false, false, false, false, false, false, false, false, false, false, false, false, false, false, false, false] (by kernel_rfl) rfl rfl ⟨(blk_cell BK300.out 0).trans rfl, (blk_cell BK300.out 1).trans rfl, (blk_cell BK301.out 0).trans rfl, (blk_cell BK301.out 1).trans rfl, ((HB.out.cell (World.block_lt_of_cell? w _ hw307_0)).trans hw307_0), ((HB.out.cell (World.block_lt_of_cell? w _ hw309_0)).trans hw309_0)⟩ (fun hHeld => ?_); refine with_tabW conv_BackKernel.tab3 conv_BackKernel.bits3 (fun HT_ HW_ => ?_)
    generalize wc.drew = w131 at BK300 BK301 BK302 HB hx307_0 hx309_0 hHeld ⊢
    refine yp_ ?_ 0 42
    refine yt6_ ?_ 1 43
    refine yp_ ?_ 2 44
    refine yp_ ?_ 3 45
    refine yp_ ?_ 4 46
    refine yp_ ?_ 5 47
    refine yt6_ ?_ 6 48
    refine yp_ ?_ 7 49
    refine yp_ ?_ 8 50
    refine yp_ ?_ 9 51
    refine yp_ ?_ 10 52
    refine yp_ ?_ 11 53
    refine yp_ ?_ 15 57
    refine yp_ ?_ 16 58
    refine yp_ ?_ 18 60
    refine yt6_ ?_ 12 54
    refine yp_ ?_ 13 55
    refine yt6_ ?_ 14 56
    refine yt6_ ?_ 19 61
    refine yp_ ?_ 20 62
    refine yt6_ ?_ 21 63
    refine yo_ 17 (some 59) (fun K hK => ?_)
    refine yg_ Try.func28 #[.int .i64 (rd l1_0 1), .int .i64 a3, .int .i64 a2] ?_
    with_reducible refine (conv_windows.calls (rd l1_0 1) a3 a2 t308 _ A48.out).mono ?_
    rintro e w' ⟨rfl, ⟨nd, rfl⟩⟩
    refine ⟨_, rfl, ?_⟩
    refine hK.out _ _ ⟨(blk_cell BK300.out 0).trans rfl, (blk_cell BK300.out 1).trans rfl, (blk_cell BK301.out 0).trans rfl, (blk_cell BK301.out 1).trans rfl, ((HB.out.cell (World.block_lt_of_cell? w _ hw307_0)).trans hw307_0), ((HB.out.cell (World.block_lt_of_cell? w _ hw309_0)).trans hw309_0)⟩ (fun hHeld => ?_)
    clear hK K
    refine zq_ (some 59) (h := ?_)
    refine yp_ ?_ 22 64
    refine yp_ ?_ 23 65
    refine yp_ ?_ 24 41
    refine done_ (done_of HT_.out (by kernel_rfl)) ?_
    have hnb132 := NB302_300.out
    have hnc132 := NB300_302.out
    have hnb133 := NB302_301.out
    have hnc133 := NB301_302.out
    have hcz134_0 := zx_ (v := .slice none 0 0) BK302 0
    have hcz134_1 := zx_ (v := .slice none 0 0) BK302 1
    have hfz134_0 := blk_frozen BK302.out 0
    have hfz134_1 := blk_frozen BK302.out 1
    try go_wp2
    refine bodyPost_ret (results_ct rfl _ _ gb302 25 #[.slice none 0 0, .slice none 0 0] (0, 0) _ rfl (zo2_ BK302) Try.underlying25 rfl (by kernel_rfl)) rfl ?_
    exact ⟨_, _, z0_, z2_, z2_, zw3_ HB GE300 GE301 GE302⟩
   rw [if_pos c50] at H
   have c50b0 : (t308 == (rd l0_0 1)) = true := beq_iff_eq.mpr c50
   have c50b1 : (t308 != (rd l0_0 1)) = false := bne_eq_false_iff_eq.mpr c50
   clear c50
   by_cases c51 : 0 < (l1_0.length : Int)
   rotate_left
   ·rw [if_neg c51] at H
    exact absurd H (by simp)
   rw [if_pos c51] at H
   have c51b0 : decide (0 < (l1_0.length : Int)) = true := decide_eq_true c51
   have c51b1 : decide (0 < l1_0.length) = true := decide_eq_true (by omega)
   clear c51
   by_cases c52 : 0 < (l0_0.length : Int)
   rotate_left
   ·rw [if_neg c52] at H
    exact absurd H (by simp)
   rw [if_pos c52] at H
   have c52b0 : decide (0 < (l0_0.length : Int)) = true := decide_eq_true c52
   have c52b1 : decide (0 < l0_0.length) = true := decide_eq_true (by omega)
   clear c52
   obtain ⟨y314, hy314⟩ : ∃ y_ : List Int, y_ = (([rd l0_0 0, rd l1_0 0, a3] : List Int)) := ⟨_, rfl⟩
   replace H : ((conv_of.f kj4 y314).bind fun bt317 => (if bt317.2.2 = 0 then (conv_BackKernel.l0 kj4 a2 a3 (rd l1_0 0) (rd l1_0 1) (rd l0_0 1) (bt317.2.1.length : Int) 0 l0_0 l0_1 l1_0 l1_1 bt317.1 bt317.2.1) else (some (([] : List Int), ([] : List Int), bt317.2.2)))) = some (r1, r2, r3) := by first | (rw [hy314]; with_reducible exact H) | (have H2_ := (Option.bind_some _ _).symm.trans H; rw [hy314]; with_reducible exact H2_) | (have H2_ := (Option.bind_some _ _).symm.trans H; with_reducible exact H2_) | with_reducible exact H | (rw [hy314]; exact H) | exact H
   have Ny314 := Aside0.mk hy314
   clear hy314
   replace H := Option.bind_eq_some_iff.mp H
   obtain ⟨⟨t317, t320, t323⟩, A530, H⟩ := H
   (try dsimp only at H)
   have A53 := Aside0.mk A530
   clear A530
   by_cases c54 : t323 = 0
   rotate_left
   ·rw [if_neg c54] at H
    have c54b0 : (t323 == 0) = false := beq_eq_false_iff_ne.mpr c54
    have c54b1 : (t323 != 0) = true := bne_iff_ne.mpr c54
    simp only [Option.some.injEq, Prod.mk.injEq] at H
    obtain ⟨rfl, rfl, rfl⟩ := H
    try go_wp2
    replace BK300 := Aside0.mk (blk_drew BK300.out)
    replace BK301 := Aside0.mk (blk_drew BK301.out)
    replace BK302 := Aside0.mk (blk_drew BK302.out)
    replace HB := Aside0.mk (below_drew1 HB.out)
    have p307 : 0 ≤ (1 : Int) := (by omega)
    have q307 : 1 < (l1_0.length : Int) := of_decide_eq_true (by first | (with_reducible assumption) | assumption)
    obtain ⟨ad307, e307, hx307_0⟩ := Kd.at_int HR1_0.out 1 p307 q307
    have hw307_0 := hx307_0
    (try rw [show ((1 : Int)).toNat = 1 from rfl] at hw307_0)
    (try rw [show 1 * 1 = 1 from rfl] at hw307_0)
    (try simp only [Nat.reduceMul, Nat.reduceEqDiff, Go.Addr.add, ↓reduceIte] at hw307_0)
    cases e307
    (try simp only [show (1 : Int).toNat = 1 from rfl, Nat.reduceMul, Nat.reduceEqDiff, Go.Addr.add, ↓reduceIte] at hx307_0)
    have qi307 : (1 < l1_0.length) = True := eq_true (by omega)
    (try rw [show ((1 : Int)).toNat = 1 from rfl] at hx307_0)
    replace hx307_0 := (HB.out.cell (World.block_lt_of_cell? w _ hx307_0)).trans hx307_0
    replace p307 := eq_true p307
    replace q307 := eq_true q307
    have p309 : 0 ≤ (1 : Int) := (by omega)
    have q309 : 1 < (l0_0.length : Int) := of_decide_eq_true (by first | (with_reducible assumption) | assumption)
    obtain ⟨ad309, e309, hx309_0⟩ := Kd.at_int HR0_0.out 1 p309 q309
    have hw309_0 := hx309_0
    (try rw [show ((1 : Int)).toNat = 1 from rfl] at hw309_0)
    (try rw [show 1 * 1 = 1 from rfl] at hw309_0)
    (try simp only [Nat.reduceMul, Nat.reduceEqDiff, Go.Addr.add, ↓reduceIte] at hw309_0)
    cases e309
    (try simp only [show (1 : Int).toNat = 1 from rfl, Nat.reduceMul, Nat.reduceEqDiff, Go.Addr.add, ↓reduceIte] at hx309_0)
    have qi309 : (1 < l0_0.length) = True := eq_true (by omega)
    (try rw [show ((1 : Int)).toNat = 1 from rfl] at hx309_0)
    replace hx309_0 := (HB.out.cell (World.block_lt_of_cell? w _ hx309_0)).trans hx309_0
    replace p309 := eq_true p309
    replace q309 := eq_true q309
    refine start_ (n := 25) (S := fun w' => w'.cell? ⟨gb300, 0, none⟩ = some (.slice (some ad309) l0_0.length c0_0) ∧ w'.cell? ⟨gb300, 1, none⟩ = some (.slice A0_1 l0_1.length c0_1) ∧ w'.cell? ⟨gb301, 0, none⟩ = some (.slice (some ad307) l1_0.length c1_0) ∧ w'.cell? ⟨gb301, 1, none⟩ = some (.slice A1_1 l1_1.length c1_1) ∧ w'.cell? ⟨ad307.block, ad307.off + 1, none⟩ = some (.int .i64 (rd l1_0 1)) ∧ w'.cell? ⟨ad309.block, ad309.off + 1, none⟩ = some (.int .i64 (rd l0_0 1))) (ds := []) #[false, false, false, false, false, false, false, false, false, false, false, false, false, false, false, false, false, false, false, false, false, false, false, false, false] (by kernel_rfl) rfl rfl ⟨(blk_cell BK300.out 0).trans rfl, (blk_cell BK300.out 1).trans rfl, (blk_cell BK301.out 0).trans rfl, (blk_cell BK301.out 1).trans rfl, ((HB.out.cell (World.block_lt_of_cell? w _ hw307_0)).trans hw307_0), ((HB.out.cell (World.block_lt_of_cell? w _ hw309_0)).trans hw309_0)⟩ (fun hHeld => ?_); refine with_tabW conv_BackKernel.tab3 conv_BackKernel.bits3 (fun HT_ HW_ => ?_)
    generalize wc.drew = w113 at BK300 BK301 BK302 HB hx307_0 hx309_0 hHeld ⊢
    refine yp_ ?_ 0 42
    refine yt6_ ?_ 1 43
    refine yp_ ?_ 2 44
    refine yp_ ?_ 3 45
    refine yp_ ?_ 4 46
    refine yp_ ?_ 5 47
    refine yt6_ ?_ 6 48
    refine yp_ ?_ 7 49
    refine yp_ ?_ 8 50
    refine yp_ ?_ 9 51
    refine yp_ ?_ 10 52
    refine yp_ ?_ 11 53
    refine yp_ ?_ 15 57
    refine yp_ ?_ 16 58
    refine yp_ ?_ 18 60
    refine yt6_ ?_ 12 54
    refine yp_ ?_ 13 55
    refine yt6_ ?_ 14 56
    refine yt6_ ?_ 19 61
    refine yp_ ?_ 20 62
    refine yt6_ ?_ 21 63
    refine yo_ 17 (some 59) (fun K hK => ?_)
    refine yg_ Try.func28 #[.int .i64 (rd l1_0 1), .int .i64 a3, .int .i64 a2] ?_
    with_reducible refine (conv_windows.calls (rd l1_0 1) a3 a2 t308 _ A48.out).mono ?_
    rintro e w' ⟨rfl, ⟨nd, rfl⟩⟩
    refine ⟨_, rfl, ?_⟩
    refine hK.out _ _ ⟨(blk_cell BK300.out 0).trans rfl, (blk_cell BK300.out 1).trans rfl, (blk_cell BK301.out 0).trans rfl, (blk_cell BK301.out 1).trans rfl, ((HB.out.cell (World.block_lt_of_cell? w _ hw307_0)).trans hw307_0), ((HB.out.cell (World.block_lt_of_cell? w _ hw309_0)).trans hw309_0)⟩ (fun hHeld => ?_)
    clear hK K
    refine zq_ (some 59) (h := ?_)
    refine yp_ ?_ 22 64
    refine yp_ ?_ 23 65
    refine yp_ ?_ 24 41
    refine done_ (done_of HT_.out (by kernel_rfl)) ?_
    try go_wp2
    (try (rw [drewN_self w113]; generalize hq_ : World.drewN w113 _ = w113; have n0_ : Aside0 (w113.heap[gb300]? = some (.cells #[.slice (some ad309) l0_0.length c0_0, .slice A0_1 l0_1.length c0_1] 25 (0, 0))) := ⟨by rw [← hq_]; exact (zb_ BK300)⟩; have n1_ : Aside0 (w113.heap[gb301]? = some (.cells #[.slice (some ad307) l1_0.length c1_0, .slice A1_1 l1_1.length c1_1] 25 (0, 0))) := ⟨by rw [← hq_]; exact (zb_ BK301)⟩; have n2_ : Aside0 (w113.heap[gb302]? = some (.cells #[.slice none 0 0, .slice none 0 0] 25 (0, 0))) := ⟨by rw [← hq_]; exact (zb_ BK302)⟩; have n3_ : Aside0 (Below w.heap.size w w113) := ⟨by rw [← hq_]; exact (zw3_ HB GE300 GE301 GE302)⟩; clear BK300 BK301 BK302 HB hq_; have BK300 := n0_; have BK301 := n1_; have BK302 := n2_; have HB := n3_; clear n0_ n1_ n2_ n3_))
    replace BK300 := Aside0.mk (blk_drew BK300.out)
    replace BK301 := Aside0.mk (blk_drew BK301.out)
    replace BK302 := Aside0.mk (blk_drew BK302.out)
    replace HB := Aside0.mk (below_drew1 HB.out)
    have p310 : 0 ≤ (0 : Int) := (by omega)
    have q310 : 0 < (l1_0.length : Int) := of_decide_eq_true (by first | (with_reducible assumption) | assumption)
    obtain ⟨ad310, e310, hx310_0⟩ := Kd.at_int HR1_0.out 0 p310 q310
    have hw310_0 := hx310_0
    (try rw [show ((0 : Int)).toNat = 0 from rfl] at hw310_0)
    (try rw [show 0 * 1 = 0 from rfl] at hw310_0)
    (try rw [Addr.add_zero'] at hw310_0)
    obtain rfl : ad307 = ad310 := (by injection e310)
    have qi310 : (0 < l1_0.length) = True := eq_true (by omega)
    (try rw [show ((0 : Int)).toNat = 0 from rfl] at hx310_0)
    (try rw [Addr.add_zero'] at hx310_0)
    replace hx310_0 := (HB.out.cell (World.block_lt_of_cell? w _ hx310_0)).trans hx310_0
    replace p310 := eq_true p310
    replace q310 := eq_true q310
    have p311 : 0 ≤ (1 : Int) := (by omega)
    have q311 : 1 < (l1_0.length : Int) := of_decide_eq_true (by first | (with_reducible assumption) | assumption)
    obtain ⟨ad311, e311, hx311_0⟩ := Kd.at_int HR1_0.out 1 p311 q311
    have hw311_0 := hx311_0
    (try rw [show ((1 : Int)).toNat = 1 from rfl] at hw311_0)
    (try rw [show 1 * 1 = 1 from rfl] at hw311_0)
    (try simp only [Nat.reduceMul, Nat.reduceEqDiff, Go.Addr.add, ↓reduceIte] at hw311_0)
    obtain rfl : ad307 = ad311 := (by injection e311)
    (try simp only [show (1 : Int).toNat = 1 from rfl, Nat.reduceMul, Nat.reduceEqDiff, Go.Addr.add, ↓reduceIte] at hx311_0)
    have qi311 : (1 < l1_0.length) = True := eq_true (by omega)
    (try rw [show ((1 : Int)).toNat = 1 from rfl] at hx311_0)
    replace hx311_0 := (HB.out.cell (World.block_lt_of_cell? w _ hx311_0)).trans hx311_0
    replace p311 := eq_true p311
    replace q311 := eq_true q311
    have p312 : 0 ≤ (1 : Int) := (by omega)
    have q312 : 1 < (l0_0.length : Int) := of_decide_eq_true (by first | (with_reducible assumption) | assumption)
    obtain ⟨ad312, e312, hx312_0⟩ := Kd.at_int HR0_0.out 1 p312 q312
    have hw312_0 := hx312_0
    (try rw [show ((1 : Int)).toNat = 1 from rfl] at hw312_0)
    (try rw [show 1 * 1 = 1 from rfl] at hw312_0)
    (try simp only [Nat.reduceMul, Nat.reduceEqDiff, Go.Addr.add, ↓reduceIte] at hw312_0)
    obtain rfl : ad309 = ad312 := (by injection e312)
    (try simp only [show (1 : Int).toNat = 1 from rfl, Nat.reduceMul, Nat.reduceEqDiff, Go.Addr.add, ↓reduceIte] at hx312_0)
    have qi312 : (1 < l0_0.length) = True := eq_true (by omega)
    (try rw [show ((1 : Int)).toNat = 1 from rfl] at hx312_0)
    replace hx312_0 := (HB.out.cell (World.block_lt_of_cell? w _ hx312_0)).trans hx312_0
    replace p312 := eq_true p312
    replace q312 := eq_true q312
    refine start_ (n := 15) (S := fun w' => w'.cell? ⟨gb301, 0, none⟩ = some (.slice (some ad307) l1_0.length c1_0) ∧ w'.cell? ⟨gb301, 1, none⟩ = some (.slice A1_1 l1_1.length c1_1) ∧ w'.cell? ⟨gb300, 0, none⟩ = some (.slice (some ad309) l0_0.length c0_0) ∧ w'.cell? ⟨gb300, 1, none⟩ = some (.slice A0_1 l0_1.length c0_1) ∧ w'.cell? ad307 = some (.int .i64 (rd l1_0 0)) ∧ w'.cell? ⟨ad307.block, ad307.off + 1, none⟩ = some (.int .i64 (rd l1_0 1)) ∧ w'.cell? ⟨ad309.block, ad309.off + 1, none⟩ = some (.int .i64 (rd l0_0 1))) (ds := []) #[false, false, false, false, false, false, false, false, false, false, false, false, false, false, false] (by kernel_rfl) rfl rfl ⟨(blk_cell BK301.out 0).trans rfl, (blk_cell BK301.out 1).trans rfl, (blk_cell BK300.out 0).trans rfl, (blk_cell BK300.out 1).trans rfl, ((HB.out.cell (World.block_lt_of_cell? w _ hw310_0)).trans hw310_0), ((HB.out.cell (World.block_lt_of_cell? w _ hw311_0)).trans hw311_0), ((HB.out.cell (World.block_lt_of_cell? w _ hw312_0)).trans hw312_0)⟩ (fun hHeld => ?_); refine with_tabW conv_BackKernel.tab5 conv_BackKernel.bits5 (fun HT_ HW_ => ?_)
    generalize w113.drew = w114 at BK300 BK301 BK302 HB hx310_0 hx311_0 hx312_0 hHeld ⊢
    refine yp_ ?_ 0 67
    refine yp_ ?_ 4 71
    refine yp_ ?_ 8 75
    refine yt7_ ?_ 1 68
    refine yp_ ?_ 2 69
    refine yt7_ ?_ 3 70
    refine yp_ ?_ 12 10
    refine yt7_ ?_ 5 72
    refine yp_ ?_ 6 73
    refine yt7_ ?_ 7 74
    refine yp_ ?_ 13 11
    refine yt7_ ?_ 9 76
    refine yp_ ?_ 10 77
    refine yt7_ ?_ 11 78
    refine yp_ ?_ 14 12
    refine done_ (done_of HT_.out (by kernel_rfl)) ?_
    have hnb115 := NB300_301.out
    have hnc115 := NB301_300.out
    have hnb116 := NB300_302.out
    have hnc116 := NB302_300.out
    have hcz117_0 := zx_ (v := .slice (some ad309) l0_0.length c0_0) BK300 0
    have hcz117_1 := zx_ (v := .slice A0_1 l0_1.length c0_1) BK300 1
    have hfz117_0 := blk_frozen BK300.out 0
    have hfz117_1 := blk_frozen BK300.out 1
    have p313 : 0 ≤ (0 : Int) := (by omega)
    have q313 : 0 < (l0_0.length : Int) := of_decide_eq_true (by first | (with_reducible assumption) | assumption)
    obtain ⟨ad313, e313, hx313_0⟩ := Kd.at_int HR0_0.out 0 p313 q313
    obtain rfl : ad309 = ad313 := (by injection e313)
    have qi313 : (0 < l0_0.length) = True := eq_true (by omega)
    (try rw [show ((0 : Int)).toNat = 0 from rfl] at hx313_0)
    (try rw [Addr.add_zero'] at hx313_0)
    replace hx313_0 := (HB.out.cell (World.block_lt_of_cell? w _ hx313_0)).trans hx313_0
    replace p313 := eq_true p313
    replace q313 := eq_true q313
    try go_wp2_with (first | ((with_reducible refine gate_dst (N := 86) rfl ?_); (try (refine gate_guard (by rfl) ?_; dsimp only)); refine Kd.R_lit (Kd.int .i64) _ 3 ?hg (N := 86) ?hd (xs := ([rd l0_0 0, rd l1_0 0, a3] : List Int)) (inner := [.int .i64 (rd l0_0 0), .int .i64 (rd l1_0 0), .int .i64 a3]) (ok := fun _ => True) (okp := fun _ => True) ?hr ?hp (fun _ hk => hk) trivial (Below.refl _ _) (Nat.le_refl _) (by simp) ?_; (case hd => rfl); (case hg => rfl); (case hr => first | (go_simp; done) | (go_simp; rfl)); (case hp => exact (Reps.one (show Kd.M (Kd.int .i64) _ _ _ (rd l0_0 0) [.int .i64 (rd l0_0 0)] from rfl) (Reps.one (show Kd.M (Kd.int .i64) _ _ _ (rd l1_0 0) [.int .i64 (rd l1_0 0)] from rfl) (Reps.one (show Kd.M (Kd.int .i64) _ _ _ a3 [.int .i64 a3] from rfl) (Reps.none _ _))))); intro v315 w118 ho119 hb hg_ hnew_; clear hg_ hnew_; (first | rw [← Ny314.out] at ho119 | (simp only [Int.reduceToNat] at ho119; rw [← Ny314.out] at ho119)); have HO316 := Aside0.mk (Kd.R_lower ho119 (below_size (zw3_ HB GE300 GE301 GE302))); replace BK300 := za_ BK300 hb; replace BK301 := za_ BK301 hb; replace BK302 := za_ BK302 hb; replace HB := Aside0.mk (below_step (zw3_ HB GE300 GE301 GE302) hb); clear hb ho119; obtain ⟨Ao120, co120, eo120⟩ := Kd.R_slice HO316.out; subst eo120) | ((with_reducible refine gate_callee (f := 29) rfl ?_); refine zg_ (some 87) Try.func29 #[.slice Ao120 y314.length co120] (h := ?_); (with_reducible refine (conv_of.calls kj4 _ _ y314 t317 t320 t323 _ ?side1 ?side2 A53.out).mono ?_); (case side1 => exact zk_ ((Kd.R_reads' HO316.out).2.2)); (case side2 => exact (Kd.R_reads' HO316.out).2.1); rintro e w121 ⟨v318, v321, rfl, ho0, ho1, hb⟩; refine ⟨_, rfl, ?_⟩; have HO319 := Aside0.mk (Kd.R_lower (Kd.R_new' ho0 (Kd.R_lt (zr_ HO316.out))) (below_size (zw3_ HB GE300 GE301 GE302))); replace HO316 := ze_ HO316 ho0 hb; have HO322 := Aside0.mk (Kd.R_lower ho1 (below_size (zw3_ HB GE300 GE301 GE302))); replace BK300 := za_ BK300 hb; replace BK301 := za_ BK301 hb; replace BK302 := za_ BK302 hb; replace HB := Aside0.mk (below_step (zw3_ HB GE300 GE301 GE302) hb); (try clear hb); (try clear ho0); (try clear ho1)) | ((with_reducible refine gate_dst (N := 13) rfl ?_); (try (refine gate_guard (by rfl) ?_; dsimp only)); refine box_event ?hg (N := 13) ?hd (cs := #[.slice none 0 0, .slice none 0 0]) (t := 25) ?hr ?_; (case hd => rfl); (case hg => rfl); (case hr => first | (go_simp; done) | (go_simp; rfl)); intro gb324 hg w122 hbox hb; replace HO316 := zy_ HO316 hb; replace HO319 := zy_ HO319 hb; replace HO322 := zy_ HO322 hb; have BK324 := Aside0.mk (hbox); have GW324 := Aside0.mk (zs_ hg (zw3_ HB GE300 GE301 GE302)); have GE324 := Aside0.mk (zs_ hg (zw3_ HB GE300 GE301 GE302)); replace HB := Aside0.mk (below_step (zw3_ HB GE300 GE301 GE302) hb); have NB300_324 := Aside0.mk (zn_ hg BK300); have NB324_300 := Aside0.mk (zm_ hg BK300); replace BK300 := za_ BK300 hb; have NB301_324 := Aside0.mk (zn_ hg BK301); have NB324_301 := Aside0.mk (zm_ hg BK301); replace BK301 := za_ BK301 hb; have NB302_324 := Aside0.mk (zn_ hg BK302); have NB324_302 := Aside0.mk (zm_ hg BK302); replace BK302 := za_ BK302 hb; clear hb hbox hg; obtain ⟨Ao123, co123, eo123⟩ := Kd.R_slice HO319.out; subst eo123; have hnb124 := NB324_300.out; have hnc124 := NB300_324.out; have hnb125 := NB324_301.out; have hnc125 := NB301_324.out; have hnb126 := NB324_302.out; have hnc126 := NB302_324.out; have hcz127_0 := zx_ (v := .slice none 0 0) BK324 0; have hcz127_1 := zx_ (v := .slice none 0 0) BK324 1; have hfz127_0 := blk_frozen BK324.out 0; have hfz127_1 := blk_frozen BK324.out 1; obtain ⟨Ao128, co128, eo128⟩ := Kd.R_slice HO322.out; subst eo128; have hnb129 := NB302_301.out; have hnc129 := NB301_302.out; have hcz130_0 := zx_ (v := .slice none 0 0) BK302 0; have hcz130_1 := zx_ (v := .slice none 0 0) BK302 1; have hfz130_0 := blk_frozen BK302.out 0; have hfz130_1 := blk_frozen BK302.out 1))
    refine bodyPost_ret (results_ct rfl _ _ gb302 25 #[.slice none 0 0, .slice none 0 0] (0, 0) _ rfl (by (with_reducible repeat (first | refine blk_drewN ?_ _ | refine blk_drew ?_ | refine blk_alloc ?_ _)); refine blk_put (cs := #[.slice none 0 0, .slice none 0 0]) ?_ 1 _ rfl; (with_reducible repeat (first | refine blk_drewN ?_ _ | refine blk_drew ?_ | refine blk_alloc ?_ _)); refine blk_put (cs := #[.slice none 0 0, .slice none 0 0]) ?_ 0 _ rfl; (with_reducible repeat (first | refine blk_drewN ?_ _ | refine blk_drew ?_ | refine blk_alloc ?_ _)); refine blk_far ?_ NB302_324.out _; (with_reducible repeat (first | refine blk_drewN ?_ _ | refine blk_drew ?_ | refine blk_alloc ?_ _)); refine blk_far ?_ NB302_324.out _; (with_reducible repeat (first | refine blk_drewN ?_ _ | refine blk_drew ?_ | refine blk_alloc ?_ _)); exact BK302.out) Try.underlying25 rfl (by kernel_rfl)) rfl ?_
    exact ⟨_, _, z0_, z2_, z2_, zw4_ HB GE300 GE301 GE302 GE324⟩
   rw [if_pos c54] at H
   have c54b0 : (t323 == 0) = true := beq_iff_eq.mpr c54
   have c54b1 : (t323 != 0) = false := bne_eq_false_iff_eq.mpr c54
   clear c54
   have H' := Aside0.mk H
   clear H
   try go_wp2
   replace BK300 := Aside0.mk (blk_drew BK300.out)
   replace BK301 := Aside0.mk (blk_drew BK301.out)
   replace BK302 := Aside0.mk (blk_drew BK302.out)
   replace HB := Aside0.mk (below_drew1 HB.out)
   have p307 : 0 ≤ (1 : Int) := (by omega)
   have q307 : 1 < (l1_0.length : Int) := of_decide_eq_true (by first | (with_reducible assumption) | assumption)
   obtain ⟨ad307, e307, hx307_0⟩ := Kd.at_int HR1_0.out 1 p307 q307
   have hw307_0 := hx307_0
   (try rw [show ((1 : Int)).toNat = 1 from rfl] at hw307_0)
   (try rw [show 1 * 1 = 1 from rfl] at hw307_0)
   (try simp only [Nat.reduceMul, Nat.reduceEqDiff, Go.Addr.add, ↓reduceIte] at hw307_0)
   cases e307
   (try simp only [show (1 : Int).toNat = 1 from rfl, Nat.reduceMul, Nat.reduceEqDiff, Go.Addr.add, ↓reduceIte] at hx307_0)
   have qi307 : (1 < l1_0.length) = True := eq_true (by omega)
   (try rw [show ((1 : Int)).toNat = 1 from rfl] at hx307_0)
   replace hx307_0 := (HB.out.cell (World.block_lt_of_cell? w _ hx307_0)).trans hx307_0
   replace p307 := eq_true p307
   replace q307 := eq_true q307
   have p309 : 0 ≤ (1 : Int) := (by omega)
   have q309 : 1 < (l0_0.length : Int) := of_decide_eq_true (by first | (with_reducible assumption) | assumption)
   obtain ⟨ad309, e309, hx309_0⟩ := Kd.at_int HR0_0.out 1 p309 q309
   have hw309_0 := hx309_0
   (try rw [show ((1 : Int)).toNat = 1 from rfl] at hw309_0)
   (try rw [show 1 * 1 = 1 from rfl] at hw309_0)
   (try simp only [Nat.reduceMul, Nat.reduceEqDiff, Go.Addr.add, ↓reduceIte] at hw309_0)
   cases e309
   (try simp only [show (1 : Int).toNat = 1 from rfl, Nat.reduceMul, Nat.reduceEqDiff, Go.Addr.add, ↓reduceIte] at hx309_0)
   have qi309 : (1 < l0_0.length) = True := eq_true (by omega)
   (try rw [show ((1 : Int)).toNat = 1 from rfl] at hx309_0)
   replace hx309_0 := (HB.out.cell (World.block_lt_of_cell? w _ hx309_0)).trans hx309_0
   replace p309 := eq_true p309
   replace q309 := eq_true q309
   refine start_ (n := 25) (S := fun w' => w'.cell? ⟨gb300, 0, none⟩ = some (.slice (some ad309) l0_0.length c0_0) ∧ w'.cell? ⟨gb300, 1, none⟩ = some (.slice A0_1 l0_1.length c0_1) ∧ w'.cell? ⟨gb301, 0, none⟩ = some (.slice (some ad307) l1_0.length c1_0) ∧ w'.cell? ⟨gb301, 1, none⟩ = some (.slice A1_1 l1_1.length c1_1) ∧ w'.cell? ⟨ad307.block, ad307.off + 1, none⟩ = some (.int .i64 (rd l1_0 1)) ∧ w'.cell? ⟨ad309.block, ad309.off + 1, none⟩ = some (.int .i64 (rd l0_0 1))) (ds := []) #[false, false, false, false, false, false, false, false, false, false, false, false, false, false, false, false, false, false, false, false, false, false, false, false, false] (by kernel_rfl) rfl rfl ⟨(blk_cell BK300.out 0).trans rfl, (blk_cell BK300.out 1).trans rfl, (blk_cell BK301.out 0).trans rfl, (blk_cell BK301.out 1).trans rfl, ((HB.out.cell (World.block_lt_of_cell? w _ hw307_0)).trans hw307_0), ((HB.out.cell (World.block_lt_of_cell? w _ hw309_0)).trans hw309_0)⟩ (fun hHeld => ?_); refine with_tabW conv_BackKernel.tab3 conv_BackKernel.bits3 (fun HT_ HW_ => ?_)
   generalize wc.drew = w55 at BK300 BK301 BK302 HB hx307_0 hx309_0 hHeld ⊢
   refine yp_ ?_ 0 42
   refine yt6_ ?_ 1 43
   refine yp_ ?_ 2 44
   refine yp_ ?_ 3 45
   refine yp_ ?_ 4 46
   refine yp_ ?_ 5 47
   refine yt6_ ?_ 6 48
   refine yp_ ?_ 7 49
   refine yp_ ?_ 8 50
   refine yp_ ?_ 9 51
   refine yp_ ?_ 10 52
   refine yp_ ?_ 11 53
   refine yp_ ?_ 15 57
   refine yp_ ?_ 16 58
   refine yp_ ?_ 18 60
   refine yt6_ ?_ 12 54
   refine yp_ ?_ 13 55
   refine yt6_ ?_ 14 56
   refine yt6_ ?_ 19 61
   refine yp_ ?_ 20 62
   refine yt6_ ?_ 21 63
   refine yo_ 17 (some 59) (fun K hK => ?_)
   refine yg_ Try.func28 #[.int .i64 (rd l1_0 1), .int .i64 a3, .int .i64 a2] ?_
   with_reducible refine (conv_windows.calls (rd l1_0 1) a3 a2 t308 _ A48.out).mono ?_
   rintro e w' ⟨rfl, ⟨nd, rfl⟩⟩
   refine ⟨_, rfl, ?_⟩
   refine hK.out _ _ ⟨(blk_cell BK300.out 0).trans rfl, (blk_cell BK300.out 1).trans rfl, (blk_cell BK301.out 0).trans rfl, (blk_cell BK301.out 1).trans rfl, ((HB.out.cell (World.block_lt_of_cell? w _ hw307_0)).trans hw307_0), ((HB.out.cell (World.block_lt_of_cell? w _ hw309_0)).trans hw309_0)⟩ (fun hHeld => ?_)
   clear hK K
   refine zq_ (some 59) (h := ?_)
   refine yp_ ?_ 22 64
   refine yp_ ?_ 23 65
   refine yp_ ?_ 24 41
   refine done_ (done_of HT_.out (by kernel_rfl)) ?_
   try go_wp2
   (try (rw [drewN_self w55]; generalize hq_ : World.drewN w55 _ = w55; have n0_ : Aside0 (w55.heap[gb300]? = some (.cells #[.slice (some ad309) l0_0.length c0_0, .slice A0_1 l0_1.length c0_1] 25 (0, 0))) := ⟨by rw [← hq_]; exact (zb_ BK300)⟩; have n1_ : Aside0 (w55.heap[gb301]? = some (.cells #[.slice (some ad307) l1_0.length c1_0, .slice A1_1 l1_1.length c1_1] 25 (0, 0))) := ⟨by rw [← hq_]; exact (zb_ BK301)⟩; have n2_ : Aside0 (w55.heap[gb302]? = some (.cells #[.slice none 0 0, .slice none 0 0] 25 (0, 0))) := ⟨by rw [← hq_]; exact (zb_ BK302)⟩; have n3_ : Aside0 (Below w.heap.size w w55) := ⟨by rw [← hq_]; exact (zw3_ HB GE300 GE301 GE302)⟩; clear BK300 BK301 BK302 HB hq_; have BK300 := n0_; have BK301 := n1_; have BK302 := n2_; have HB := n3_; clear n0_ n1_ n2_ n3_))
   replace BK300 := Aside0.mk (blk_drew BK300.out)
   replace BK301 := Aside0.mk (blk_drew BK301.out)
   replace BK302 := Aside0.mk (blk_drew BK302.out)
   replace HB := Aside0.mk (below_drew1 HB.out)
   have p310 : 0 ≤ (0 : Int) := (by omega)
   have q310 : 0 < (l1_0.length : Int) := of_decide_eq_true (by first | (with_reducible assumption) | assumption)
   obtain ⟨ad310, e310, hx310_0⟩ := Kd.at_int HR1_0.out 0 p310 q310
   have hw310_0 := hx310_0
   (try rw [show ((0 : Int)).toNat = 0 from rfl] at hw310_0)
   (try rw [show 0 * 1 = 0 from rfl] at hw310_0)
   (try rw [Addr.add_zero'] at hw310_0)
   obtain rfl : ad307 = ad310 := (by injection e310)
   have qi310 : (0 < l1_0.length) = True := eq_true (by omega)
   (try rw [show ((0 : Int)).toNat = 0 from rfl] at hx310_0)
   (try rw [Addr.add_zero'] at hx310_0)
   replace hx310_0 := (HB.out.cell (World.block_lt_of_cell? w _ hx310_0)).trans hx310_0
   replace p310 := eq_true p310
   replace q310 := eq_true q310
   have p311 : 0 ≤ (1 : Int) := (by omega)
   have q311 : 1 < (l1_0.length : Int) := of_decide_eq_true (by first | (with_reducible assumption) | assumption)
   obtain ⟨ad311, e311, hx311_0⟩ := Kd.at_int HR1_0.out 1 p311 q311
   have hw311_0 := hx311_0
   (try rw [show ((1 : Int)).toNat = 1 from rfl] at hw311_0)
   (try rw [show 1 * 1 = 1 from rfl] at hw311_0)
   (try simp only [Nat.reduceMul, Nat.reduceEqDiff, Go.Addr.add, ↓reduceIte] at hw311_0)
   obtain rfl : ad307 = ad311 := (by injection e311)
   (try simp only [show (1 : Int).toNat = 1 from rfl, Nat.reduceMul, Nat.reduceEqDiff, Go.Addr.add, ↓reduceIte] at hx311_0)
   have qi311 : (1 < l1_0.length) = True := eq_true (by omega)
   (try rw [show ((1 : Int)).toNat = 1 from rfl] at hx311_0)
   replace hx311_0 := (HB.out.cell (World.block_lt_of_cell? w _ hx311_0)).trans hx311_0
   replace p311 := eq_true p311
   replace q311 := eq_true q311
   have p312 : 0 ≤ (1 : Int) := (by omega)
   have q312 : 1 < (l0_0.length : Int) := of_decide_eq_true (by first | (with_reducible assumption) | assumption)
   obtain ⟨ad312, e312, hx312_0⟩ := Kd.at_int HR0_0.out 1 p312 q312
   have hw312_0 := hx312_0
   (try rw [show ((1 : Int)).toNat = 1 from rfl] at hw312_0)
   (try rw [show 1 * 1 = 1 from rfl] at hw312_0)
   (try simp only [Nat.reduceMul, Nat.reduceEqDiff, Go.Addr.add, ↓reduceIte] at hw312_0)
   obtain rfl : ad309 = ad312 := (by injection e312)
   (try simp only [show (1 : Int).toNat = 1 from rfl, Nat.reduceMul, Nat.reduceEqDiff, Go.Addr.add, ↓reduceIte] at hx312_0)
   have qi312 : (1 < l0_0.length) = True := eq_true (by omega)
   (try rw [show ((1 : Int)).toNat = 1 from rfl] at hx312_0)
   replace hx312_0 := (HB.out.cell (World.block_lt_of_cell? w _ hx312_0)).trans hx312_0
   replace p312 := eq_true p312
   replace q312 := eq_true q312
   refine start_ (n := 15) (S := fun w' => w'.cell? ⟨gb301, 0, none⟩ = some (.slice (some ad307) l1_0.length c1_0) ∧ w'.cell? ⟨gb301, 1, none⟩ = some (.slice A1_1 l1_1.length c1_1) ∧ w'.cell? ⟨gb300, 0, none⟩ = some (.slice (some ad309) l0_0.length c0_0) ∧ w'.cell? ⟨gb300, 1, none⟩ = some (.slice A0_1 l0_1.length c0_1) ∧ w'.cell? ad307 = some (.int .i64 (rd l1_0 0)) ∧ w'.cell? ⟨ad307.block, ad307.off + 1, none⟩ = some (.int .i64 (rd l1_0 1)) ∧ w'.cell? ⟨ad309.block, ad309.off + 1, none⟩ = some (.int .i64 (rd l0_0 1))) (ds := []) #[false, false, false, false, false, false, false, false, false, false, false, false, false, false, false] (by kernel_rfl) rfl rfl ⟨(blk_cell BK301.out 0).trans rfl, (blk_cell BK301.out 1).trans rfl, (blk_cell BK300.out 0).trans rfl, (blk_cell BK300.out 1).trans rfl, ((HB.out.cell (World.block_lt_of_cell? w _ hw310_0)).trans hw310_0), ((HB.out.cell (World.block_lt_of_cell? w _ hw311_0)).trans hw311_0), ((HB.out.cell (World.block_lt_of_cell? w _ hw312_0)).trans hw312_0)⟩ (fun hHeld => ?_); refine with_tabW conv_BackKernel.tab5 conv_BackKernel.bits5 (fun HT_ HW_ => ?_)
   generalize w55.drew = w56 at BK300 BK301 BK302 HB hx310_0 hx311_0 hx312_0 hHeld ⊢
   refine yp_ ?_ 0 67
   refine yp_ ?_ 4 71
   refine yp_ ?_ 8 75
   refine yt7_ ?_ 1 68
   refine yp_ ?_ 2 69
   refine yt7_ ?_ 3 70
   refine yp_ ?_ 12 10
   refine yt7_ ?_ 5 72
   refine yp_ ?_ 6 73
   refine yt7_ ?_ 7 74
   refine yp_ ?_ 13 11
   refine yt7_ ?_ 9 76
   refine yp_ ?_ 10 77
   refine yt7_ ?_ 11 78
   refine yp_ ?_ 14 12
   refine done_ (done_of HT_.out (by kernel_rfl)) ?_
   have hnb57 := NB300_301.out
   have hnc57 := NB301_300.out
   have hnb58 := NB300_302.out
   have hnc58 := NB302_300.out
   have hcz59_0 := zx_ (v := .slice (some ad309) l0_0.length c0_0) BK300 0
   have hcz59_1 := zx_ (v := .slice A0_1 l0_1.length c0_1) BK300 1
   have hfz59_0 := blk_frozen BK300.out 0
   have hfz59_1 := blk_frozen BK300.out 1
   have p313 : 0 ≤ (0 : Int) := (by omega)
   have q313 : 0 < (l0_0.length : Int) := of_decide_eq_true (by first | (with_reducible assumption) | assumption)
   obtain ⟨ad313, e313, hx313_0⟩ := Kd.at_int HR0_0.out 0 p313 q313
   obtain rfl : ad309 = ad313 := (by injection e313)
   have qi313 : (0 < l0_0.length) = True := eq_true (by omega)
   (try rw [show ((0 : Int)).toNat = 0 from rfl] at hx313_0)
   (try rw [Addr.add_zero'] at hx313_0)
   replace hx313_0 := (HB.out.cell (World.block_lt_of_cell? w _ hx313_0)).trans hx313_0
   replace p313 := eq_true p313
   replace q313 := eq_true q313
   try go_wp2_with (first | ((with_reducible refine gate_dst (N := 86) rfl ?_); (try (refine gate_guard (by rfl) ?_; dsimp only)); refine Kd.R_lit (Kd.int .i64) _ 3 ?hg (N := 86) ?hd (xs := ([rd l0_0 0, rd l1_0 0, a3] : List Int)) (inner := [.int .i64 (rd l0_0 0), .int .i64 (rd l1_0 0), .int .i64 a3]) (ok := fun _ => True) (okp := fun _ => True) ?hr ?hp (fun _ hk => hk) trivial (Below.refl _ _) (Nat.le_refl _) (by simp) ?_; (case hd => rfl); (case hg => rfl); (case hr => first | (go_simp; done) | (go_simp; rfl)); (case hp => exact (Reps.one (show Kd.M (Kd.int .i64) _ _ _ (rd l0_0 0) [.int .i64 (rd l0_0 0)] from rfl) (Reps.one (show Kd.M (Kd.int .i64) _ _ _ (rd l1_0 0) [.int .i64 (rd l1_0 0)] from rfl) (Reps.one (show Kd.M (Kd.int .i64) _ _ _ a3 [.int .i64 a3] from rfl) (Reps.none _ _))))); intro v315 w60 ho61 hb hg_ hnew_; clear hg_ hnew_; (first | rw [← Ny314.out] at ho61 | (simp only [Int.reduceToNat] at ho61; rw [← Ny314.out] at ho61)); have HO316 := Aside0.mk (Kd.R_lower ho61 (below_size (zw3_ HB GE300 GE301 GE302))); replace BK300 := za_ BK300 hb; replace BK301 := za_ BK301 hb; replace BK302 := za_ BK302 hb; replace HB := Aside0.mk (below_step (zw3_ HB GE300 GE301 GE302) hb); clear hb ho61; obtain ⟨Ao62, co62, eo62⟩ := Kd.R_slice HO316.out; subst eo62) | ((with_reducible refine gate_callee (f := 29) rfl ?_); refine zg_ (some 87) Try.func29 #[.slice Ao62 y314.length co62] (h := ?_); (with_reducible refine (conv_of.calls kj4 _ _ y314 t317 t320 t323 _ ?side1 ?side2 A53.out).mono ?_); (case side1 => exact zk_ ((Kd.R_reads' HO316.out).2.2)); (case side2 => exact (Kd.R_reads' HO316.out).2.1); rintro e w63 ⟨v318, v321, rfl, ho0, ho1, hb⟩; refine ⟨_, rfl, ?_⟩; have HO319 := Aside0.mk (Kd.R_lower (Kd.R_new' ho0 (Kd.R_lt (zr_ HO316.out))) (below_size (zw3_ HB GE300 GE301 GE302))); replace HO316 := ze_ HO316 ho0 hb; have HO322 := Aside0.mk (Kd.R_lower ho1 (below_size (zw3_ HB GE300 GE301 GE302))); replace BK300 := za_ BK300 hb; replace BK301 := za_ BK301 hb; replace BK302 := za_ BK302 hb; replace HB := Aside0.mk (below_step (zw3_ HB GE300 GE301 GE302) hb); (try clear hb); (try clear ho0); (try clear ho1)) | ((with_reducible refine gate_dst (N := 13) rfl ?_); (try (refine gate_guard (by rfl) ?_; dsimp only)); refine box_event ?hg (N := 13) ?hd (cs := #[.slice none 0 0, .slice none 0 0]) (t := 25) ?hr ?_; (case hd => rfl); (case hg => rfl); (case hr => first | (go_simp; done) | (go_simp; rfl)); intro gb324 hg w64 hbox hb; replace HO316 := zy_ HO316 hb; replace HO319 := zy_ HO319 hb; replace HO322 := zy_ HO322 hb; have BK324 := Aside0.mk (hbox); have GW324 := Aside0.mk (zs_ hg (zw3_ HB GE300 GE301 GE302)); have GE324 := Aside0.mk (zs_ hg (zw3_ HB GE300 GE301 GE302)); replace HB := Aside0.mk (below_step (zw3_ HB GE300 GE301 GE302) hb); have NB300_324 := Aside0.mk (zn_ hg BK300); have NB324_300 := Aside0.mk (zm_ hg BK300); replace BK300 := za_ BK300 hb; have NB301_324 := Aside0.mk (zn_ hg BK301); have NB324_301 := Aside0.mk (zm_ hg BK301); replace BK301 := za_ BK301 hb; have NB302_324 := Aside0.mk (zn_ hg BK302); have NB324_302 := Aside0.mk (zm_ hg BK302); replace BK302 := za_ BK302 hb; clear hb hbox hg; obtain ⟨Ao65, co65, eo65⟩ := Kd.R_slice HO319.out; subst eo65; have hnb66 := NB324_300.out; have hnc66 := NB300_324.out; have hnb67 := NB324_301.out; have hnc67 := NB301_324.out; have hnb68 := NB324_302.out; have hnc68 := NB302_324.out; have hcz69_0 := zx_ (v := .slice none 0 0) BK324 0; have hcz69_1 := zx_ (v := .slice none 0 0) BK324 1; have hfz69_0 := blk_frozen BK324.out 0; have hfz69_1 := blk_frozen BK324.out 1; obtain ⟨Ao70, co70, eo70⟩ := Kd.R_slice HO322.out; subst eo70))
   go_loopg [97] kj4 (fun kq v97 w' => ∃ (x97_2 : Int) (x325001_2 : List Int) (u325001 : Value), v97 = .int .i64 x97_2 ∧ Aside0 (conv_BackKernel.l0 kq a2 a3 (rd l1_0 0) (rd l1_0 1) (rd l0_0 1) (t320.length : Int) x97_2 l0_0 l0_1 l1_0 l1_1 t317 x325001_2 = some (r1, r2, r3)) ∧ Aside0 (kq ≤ kj4) ∧ Aside0 (Kd.R (Kd.int .i64) 3 w' w.heap.size (fun _ => True) (.slice Ao65 t317.length co65) t317) ∧ Aside0 (Kd.R (Kd.int .i64) 33 w' w.heap.size (fun _ => True) u325001 x325001_2) ∧ Aside0 (w'.heap[gb300]? = some (.cells #[(.slice (some ad309) l0_0.length c0_0), (.slice A0_1 l0_1.length c0_1)] 25 (0, 0))) ∧ Aside0 (w'.heap[gb301]? = some (.cells #[(.slice (some ad307) l1_0.length c1_0), (.slice A1_1 l1_1.length c1_1)] 25 (0, 0))) ∧ Aside0 (w'.heap[gb302]? = some (.cells #[(.slice none 0 0), (.slice none 0 0)] 25 (0, 0))) ∧ Aside0 (w'.heap[gb324]? = some (.cells #[(.slice Ao65 t317.length co65), u325001] 25 (0, 0))) ∧ Aside0 (Below w.heap.size w w'))
   case atStart => exact ⟨(0), (t320), (.slice Ao70 t320.length co70), z1_, H', ⟨Nat.le_refl _⟩, ⟨zr_ (Kd.R_mono (Kd.R_far (p := ⟨gb324, 1, none⟩) (Kd.R_far (p := ⟨gb324, 0, none⟩) (Kd.R_types HO319.out BK324.out (by decide)) (fun _ hk => hk.2) (.slice Ao65 t317.length co65)) (fun _ hk => hk.2) (.slice Ao70 t320.length co70)) (fun _ hk => trivial))⟩, ⟨zr_ (Kd.R_mono (Kd.R_far (p := ⟨gb324, 1, none⟩) (Kd.R_far (p := ⟨gb324, 0, none⟩) (Kd.R_types HO322.out BK324.out (by decide)) (fun _ hk => hk.2) (.slice Ao65 t317.length co65)) (fun _ hk => hk.2) (.slice Ao70 t320.length co70)) (fun _ hk => trivial))⟩, ⟨zv1_ BK300 NB300_324⟩, ⟨zv1_ BK301 NB301_324⟩, ⟨zv1_ BK302 NB302_324⟩, ⟨zo2_ BK324⟩, ⟨zw4_ HB GE300 GE301 GE302 GE324⟩⟩
   case round =>
    clear H'
    try clear c1
    try clear c2
    try clear p2
    try clear c3
    try clear p3
    try clear q3
    try clear hx3
    try clear qi3
    try clear c4
    try clear c5
    try clear c6
    try clear c10
    try clear c12
    try clear c14
    try clear c16
    try clear c17
    try clear c20
    try clear c23
    try clear c24
    try clear c26
    try clear c27
    try clear c28
    try clear c29
    try clear c30
    try clear p30
    try clear q30
    try clear hx30
    try clear qi30
    try clear c31
    try clear p31
    try clear q31
    try clear hx31
    try clear qi31
    try clear c34
    try clear c37
    try clear c38
    try clear c41
    try clear c42
    try clear c43
    try clear c45
    try clear c45b0
    try clear c45b1
    try clear c46
    try clear c46b0
    try clear c46b1
    try clear c47
    try clear c47b0
    try clear c47b1
    try clear c49
    try clear c49b0
    try clear c49b1
    try clear c50
    try clear c50b0
    try clear c50b1
    try clear c51
    try clear c51b0
    try clear c51b1
    try clear c52
    try clear c52b0
    try clear c52b1
    try clear c54
    try clear c54b0
    try clear c54b1
    try clear c57
    try clear c58
    try clear c66
    try clear c67
    try clear c68
    try clear hcz18_0
    try clear hcz18_1
    try clear hcz21_0
    try clear hcz21_1
    try clear hcz25_0
    try clear hcz25_1
    try clear hcz28_0
    try clear hcz28_1
    try clear hcz32_0
    try clear hcz32_1
    try clear hcz35_0
    try clear hcz35_1
    try clear hcz39_0
    try clear hcz39_1
    try clear hcz44_0
    try clear hcz44_1
    try clear hcz59_0
    try clear hcz59_1
    try clear hcz69_0
    try clear hcz69_1
    try clear hfz18_0
    try clear hfz18_1
    try clear hfz21_0
    try clear hfz21_1
    try clear hfz25_0
    try clear hfz25_1
    try clear hfz28_0
    try clear hfz28_1
    try clear hfz32_0
    try clear hfz32_1
    try clear hfz35_0
    try clear hfz35_1
    try clear hfz39_0
    try clear hfz39_1
    try clear hfz44_0
    try clear hfz44_1
    try clear hfz59_0
    try clear hfz59_1
    try clear hfz69_0
    try clear hfz69_1
    try clear hx307_0
    try clear hx309_0
    try clear hx310_0
    try clear hx311_0
    try clear hx312_0
    try clear hx313_0
    try clear p2
    try clear p307
    try clear p309
    try clear p310
    try clear p311
    try clear p312
    try clear p313
    try clear q307
    try clear q309
    try clear q310
    try clear q311
    try clear q312
    try clear q313
    obtain ⟨x97_2, x325001_2, u325001, rfl, HA, HK2, HO_325000, HO_325001, BK300, BK301, BK302, BK324, HB⟩ := hrel
    cases gk with
    | zero => exact absurd HA.out (by simp [conv_BackKernel.l0])
    | succ k2 =>
     have H := HA.out
     clear HA
     simp only [conv_BackKernel.l0] at H
     by_cases c71 : x97_2 < (t320.length : Int)
     rotate_left
     ·rw [if_neg c71] at H
      have c71b0 : decide (x97_2 < (t320.length : Int)) = false := decide_eq_false c71
      clear c71
      simp only [Option.some.injEq, Prod.mk.injEq] at H
      obtain ⟨rfl, rfl, rfl⟩ := H
      have hnb105 := NB324_300.out
      have hnc105 := NB300_324.out
      have hnb106 := NB324_301.out
      have hnc106 := NB301_324.out
      have hnb107 := NB324_302.out
      have hnc107 := NB302_324.out
      have hcz108_0 := zx_ (v := .slice Ao65 t317.length co65) BK324 0
      have hcz108_1 := zx_ (v := u325001) BK324 1
      have hfz108_0 := blk_frozen BK324.out 0
      have hfz108_1 := blk_frozen BK324.out 1
      have hnb109 := NB302_300.out
      have hnc109 := NB300_302.out
      have hnb110 := NB302_301.out
      have hnc110 := NB301_302.out
      have hcz111_0 := zx_ (v := .slice none 0 0) BK302 0
      have hcz111_1 := zx_ (v := .slice none 0 0) BK302 1
      have hfz111_0 := blk_frozen BK302.out 0
      have hfz111_1 := blk_frozen BK302.out 1
      obtain ⟨Ao112, co112, eo112⟩ := Kd.R_slice HO_325001.out
      subst eo112
      go_wp2
      refine bodyPost_ret (results_ct rfl _ _ gb302 25 #[.slice Ao65 t317.length co65, .slice Ao112 x325001_2.length co112] (0, 0) _ rfl (zo2_ BK302) Try.underlying25 rfl (by kernel_rfl)) rfl ?_
      exact ⟨_, _, z0_, zr_ (Kd.R_mono (Kd.R_far (p := ⟨gb302, 1, none⟩) (Kd.R_far (p := ⟨gb302, 0, none⟩) (Kd.R_types HO_325000.out BK302.out (by decide)) (fun _ hk => hk.2) (.slice Ao65 t317.length co65)) (fun _ hk => hk.2) (.slice Ao112 x325001_2.length co112)) (fun _ hk => trivial)), zr_ (Kd.R_mono (Kd.R_far (p := ⟨gb302, 1, none⟩) (Kd.R_far (p := ⟨gb302, 0, none⟩) (Kd.R_types HO_325001.out BK302.out (by decide)) (fun _ hk => hk.2) (.slice Ao65 t317.length co65)) (fun _ hk => hk.2) (.slice Ao112 x325001_2.length co112)) (fun _ hk => trivial)), zw4_ HB GE300 GE301 GE302 GE324⟩
     rw [if_pos c71] at H
     have c71b0 : decide (x97_2 < (t320.length : Int)) = true := decide_eq_true c71
     clear c71
     by_cases c72 : (wrap64 ((rd l1_0 0) * a3)) = 0
     ·rw [if_pos c72] at H
      exact absurd H (by simp)
     rw [if_neg c72] at H
     have c72b0 : ((wrap64 ((rd l1_0 0) * a3)) == 0) = false := beq_eq_false_iff_ne.mpr c72
     have c72b1 : ((wrap64 ((rd l1_0 0) * a3)) != 0) = true := bne_iff_ne.mpr c72
     by_cases c73 : a3 = 0
     ·rw [if_pos c73] at H
      exact absurd H (by simp)
     rw [if_neg c73] at H
     have c73b0 : (a3 == 0) = false := beq_eq_false_iff_ne.mpr c73
     have c73b1 : (a3 != 0) = true := bne_iff_ne.mpr c73
     by_cases c74 : (rd l1_0 0) = 0
     ·rw [if_pos c74] at H
      exact absurd H (by simp)
     rw [if_neg c74] at H
     have c74b0 : ((rd l1_0 0) == 0) = false := beq_eq_false_iff_ne.mpr c74
     have c74b1 : ((rd l1_0 0) != 0) = true := bne_iff_ne.mpr c74
     have H' := Aside0.mk H
     clear H
     try go_wp2
     replace HO_325000 := Aside0.mk (Kd.R_drew HO_325000.out)
     replace HO_325001 := Aside0.mk (Kd.R_drew HO_325001.out)
     replace BK300 := Aside0.mk (blk_drew BK300.out)
     replace BK301 := Aside0.mk (blk_drew BK301.out)
     replace BK302 := Aside0.mk (blk_drew BK302.out)
     replace BK324 := Aside0.mk (blk_drew BK324.out)
     replace HB := Aside0.mk (below_drew1 HB.out)
     refine start_ (n := 16) (S := fun w' => True) (ds := []) #[false, false, false, false, false, false, false, false, false, false, false, false, false, false, false, false] (by kernel_rfl) rfl rfl trivial (fun hHeld => ?_); refine with_tabW conv_BackKernel.tab12 conv_BackKernel.bits12 (fun HT_ HW_ => ?_)
     generalize wr.drew = w75 at HO_325000 HO_325001 BK300 BK301 BK302 BK324 HB hHeld ⊢
     refine yp_ ?_ 0 100
     refine yp_ ?_ 1 101
     refine yp_ ?_ 2 102
     refine yp_ ?_ 3 103
     refine yp_ ?_ 4 104
     refine yp_ ?_ 5 105
     refine yp_ ?_ 6 106
     refine yp_ ?_ 7 107
     refine yp_ ?_ 8 108
     refine yp_ ?_ 9 109
     refine yp_ ?_ 10 110
     refine yp_ ?_ 11 111
     refine yp_ ?_ 12 112
     refine yp_ ?_ 13 16
     refine yp_ ?_ 14 17
     refine yp_ ?_ 15 18
     refine done_ (done_of HT_.out (by kernel_rfl)) ?_
     try go_wp2_with (first | ((with_reducible refine gate_dst (N := 19) rfl ?_); (try (refine gate_guard (by rfl) ?_; dsimp only)); refine box_event ?hg (N := 19) ?hd (cs := #[.int .i64 0, .int .i64 0, .int .u64 0]) (t := 54) ?hr ?_; (case hd => rfl); (case hg => rfl); (case hr => first | (go_simp; done) | (go_simp; rfl)); intro gb325 hg w76 hbox hb; replace HO_325000 := zy_ HO_325000 hb; replace HO_325001 := zy_ HO_325001 hb; have BK325 := Aside0.mk (hbox); have GW325 := Aside0.mk (zs_ hg (zw4_ HB GE300 GE301 GE302 GE324)); have GE325 := Aside0.mk (zs_ hg (zw4_ HB GE300 GE301 GE302 GE324)); replace HB := Aside0.mk (below_step (zw4_ HB GE300 GE301 GE302 GE324) hb); have NB300_325 := Aside0.mk (zn_ hg BK300); have NB325_300 := Aside0.mk (zm_ hg BK300); replace BK300 := za_ BK300 hb; have NB301_325 := Aside0.mk (zn_ hg BK301); have NB325_301 := Aside0.mk (zm_ hg BK301); replace BK301 := za_ BK301 hb; have NB302_325 := Aside0.mk (zn_ hg BK302); have NB325_302 := Aside0.mk (zm_ hg BK302); replace BK302 := za_ BK302 hb; have NB324_325 := Aside0.mk (zn_ hg BK324); have NB325_324 := Aside0.mk (zm_ hg BK324); replace BK324 := za_ BK324 hb; clear hb hbox hg))
     go_loopg [114] k2 (fun kq v114 w' => ∃ (x114_3 : Int) (x326000_3 : Int) (x326001_3 : Int) (x326002_3 : Int), v114 = .int .i64 x114_3 ∧ Aside0 (conv_BackKernel.l1 kq a2 a3 (rd l1_0 0) (rd l1_0 1) (rd l0_0 1) x97_2 (wrap64 (Int.tdiv x97_2 (wrap64 ((rd l1_0 0) * a3)))) (Int.tmod (wrap64 (Int.tdiv x97_2 a3)) (rd l1_0 0)) (Int.tmod x97_2 a3) (t320.length : Int) x97_2 (rd l0_0 1) x114_3 l0_0 l0_1 l1_0 l1_1 t317 x325001_2 x326000_3 x326001_3 x326002_3 = some (r1, r2, r3)) ∧ Aside0 (kq ≤ k2) ∧ Aside0 (Kd.R (Kd.int .i64) 3 w' w.heap.size (fun _ => True) (.slice Ao65 t317.length co65) t317) ∧ Aside0 (Kd.R (Kd.int .i64) 33 w' w.heap.size (fun _ => True) u325001 x325001_2) ∧ Aside0 (w'.heap[gb300]? = some (.cells #[(.slice (some ad309) l0_0.length c0_0), (.slice A0_1 l0_1.length c0_1)] 25 (0, 0))) ∧ Aside0 (w'.heap[gb301]? = some (.cells #[(.slice (some ad307) l1_0.length c1_0), (.slice A1_1 l1_1.length c1_1)] 25 (0, 0))) ∧ Aside0 (w'.heap[gb302]? = some (.cells #[(.slice none 0 0), (.slice none 0 0)] 25 (0, 0))) ∧ Aside0 (w'.heap[gb324]? = some (.cells #[(.slice Ao65 t317.length co65), u325001] 25 (0, 0))) ∧ Aside0 (w'.heap[gb325]? = some (.cells #[.int .i64 x326000_3, .int .i64 x326001_3, .int .u64 x326002_3] 54 (0, 0))) ∧ Aside0 (Below w.heap.size w w'))
     case atStart => exact ⟨(0), (0), (0), (0), z1_, H', ⟨Nat.le_refl _⟩, ⟨zr_ HO_325000.out⟩, ⟨zr_ HO_325001.out⟩, ⟨zb_ BK300⟩, ⟨zb_ BK301⟩, ⟨zb_ BK302⟩, ⟨zb_ BK324⟩, ⟨zb_ BK325⟩, ⟨zw5_ HB GE300 GE301 GE302 GE324 GE325⟩⟩
     case round =>
      clear H'
      try clear c1
      try clear c2
      try clear p2
      try clear c3
      try clear p3
      try clear q3
      try clear hx3
      try clear qi3
      try clear c4
      try clear c5
      try clear c6
      try clear p6
      try clear c7
      try clear c10
      try clear c12
      try clear c14
      try clear c16
      try clear c17
      try clear c20
      try clear c23
      try clear c24
      try clear c26
      try clear c27
      try clear c28
      try clear c29
      try clear c30
      try clear p30
      try clear q30
      try clear hx30
      try clear qi30
      try clear c31
      try clear p31
      try clear q31
      try clear hx31
      try clear qi31
      try clear c34
      try clear c37
      try clear c38
      try clear c41
      try clear c42
      try clear c43
      try clear c45
      try clear c45b0
      try clear c45b1
      try clear c46
      try clear c46b0
      try clear c46b1
      try clear c47
      try clear c47b0
      try clear c47b1
      try clear c49
      try clear c49b0
      try clear c49b1
      try clear c50
      try clear c50b0
      try clear c50b1
      try clear c51
      try clear c51b0
      try clear c51b1
      try clear c52
      try clear c52b0
      try clear c52b1
      try clear c54
      try clear c54b0
      try clear c54b1
      try clear c57
      try clear c58
      try clear p64
      try clear c66
      try clear c67
      try clear c68
      try clear c71
      try clear c71b0
      try clear c72
      try clear c72b0
      try clear c72b1
      try clear c73
      try clear c73b0
      try clear c73b1
      try clear c74
      try clear c74b0
      try clear c74b1
      try clear hcz18_0
      try clear hcz18_1
      try clear hcz21_0
      try clear hcz21_1
      try clear hcz25_0
      try clear hcz25_1
      try clear hcz28_0
      try clear hcz28_1
      try clear hcz32_0
      try clear hcz32_1
      try clear hcz35_0
      try clear hcz35_1
      try clear hcz39_0
      try clear hcz39_1
      try clear hcz44_0
      try clear hcz44_1
      try clear hcz59_0
      try clear hcz59_1
      try clear hcz69_0
      try clear hcz69_1
      try clear hfz18_0
      try clear hfz18_1
      try clear hfz21_0
      try clear hfz21_1
      try clear hfz25_0
      try clear hfz25_1
      try clear hfz28_0
      try clear hfz28_1
      try clear hfz32_0
      try clear hfz32_1
      try clear hfz35_0
      try clear hfz35_1
      try clear hfz39_0
      try clear hfz39_1
      try clear hfz44_0
      try clear hfz44_1
      try clear hfz59_0
      try clear hfz59_1
      try clear hfz69_0
      try clear hfz69_1
      try clear hx307_0
      try clear hx309_0
      try clear hx310_0
      try clear hx311_0
      try clear hx312_0
      try clear hx313_0
      try clear p2
      try clear p3
      try clear p30
      try clear p307
      try clear p309
      try clear p31
      try clear p310
      try clear p311
      try clear p312
      try clear p313
      try clear q3
      try clear q30
      try clear q307
      try clear q309
      try clear q31
      try clear q310
      try clear q311
      try clear q312
      try clear q313
      obtain ⟨x114_3, x326000_3, x326001_3, x326002_3, rfl, HA, HK3, HO_325000, HO_325001, BK300, BK301, BK302, BK324, BK325, HB⟩ := hrel
      cases gk with
      | zero => exact absurd HA.out (by simp [conv_BackKernel.l1])
      | succ k3 =>
       have H := HA.out
       clear HA
       simp only [conv_BackKernel.l1] at H
       by_cases c77 : x114_3 < (rd l0_0 1)
       rotate_left
       ·rw [if_neg c77] at H
        have c77b0 : decide (x114_3 < (rd l0_0 1)) = false := decide_eq_false c77
        clear c77
        replace H := Option.bind_eq_some_iff.mp H
        obtain ⟨t331, A930, H⟩ := H
        (try dsimp only at H)
        have A93 := Aside0.mk A930
        clear A930
        by_cases c94 : 0 ≤ x97_2
        rotate_left
        ·rw [if_neg c94] at H
         exact absurd H (by simp)
        rw [if_pos c94] at H
        have c94b0 : decide (0 ≤ x97_2) = true := decide_eq_true c94
        clear c94
        by_cases c95 : x97_2 < (x325001_2.length : Int)
        rotate_left
        ·rw [if_neg c95] at H
         exact absurd H (by simp)
        rw [if_pos c95] at H
        have c95b0 : decide (x97_2 < (x325001_2.length : Int)) = true := decide_eq_true c95
        clear c95
        obtain ⟨y332, hy332⟩ : ∃ y_ : List Int, y_ = (x325001_2.set (x97_2 : Int).toNat t331) := ⟨_, rfl⟩
        replace H : (conv_BackKernel.l0 k3 a2 a3 (rd l1_0 0) (rd l1_0 1) (rd l0_0 1) (t320.length : Int) (wrap64 (x97_2 + 1)) l0_0 l0_1 l1_0 l1_1 t317 y332) = some (r1, r2, r3) := by first | (rw [hy332]; with_reducible exact H) | (have H2_ := (Option.bind_some _ _).symm.trans H; rw [hy332]; with_reducible exact H2_) | (have H2_ := (Option.bind_some _ _).symm.trans H; with_reducible exact H2_) | with_reducible exact H | (rw [hy332]; exact H) | exact H
        have Ny332 := Aside0.mk hy332
        clear hy332
        have H' := Aside0.mk H
        clear H
        have hnb97 := NB325_300.out
        have hnc97 := NB300_325.out
        have hnb98 := NB325_301.out
        have hnc98 := NB301_325.out
        have hnb99 := NB325_302.out
        have hnc99 := NB302_325.out
        have hnb100 := NB325_324.out
        have hnc100 := NB324_325.out
        have hcz101_0 := zx_ (v := .int .i64 x326000_3) BK325 0
        have hcz101_1 := zx_ (v := .int .i64 x326001_3) BK325 1
        have hcz101_2 := zx_ (v := .int .u64 x326002_3) BK325 2
        have hfz101_0 := blk_frozen BK325.out 0
        have hfz101_1 := blk_frozen BK325.out 1
        have hfz101_2 := blk_frozen BK325.out 2
        try go_wp2
        replace HO_325000 := Aside0.mk (Kd.R_drew HO_325000.out)
        replace HO_325001 := Aside0.mk (Kd.R_drew HO_325001.out)
        replace BK300 := Aside0.mk (blk_drew BK300.out)
        replace BK301 := Aside0.mk (blk_drew BK301.out)
        replace BK302 := Aside0.mk (blk_drew BK302.out)
        replace BK324 := Aside0.mk (blk_drew BK324.out)
        replace BK325 := Aside0.mk (blk_drew BK325.out)
        replace HB := Aside0.mk (below_drew1 HB.out)
        refine start_ (n := 6) (S := fun w' => w'.cell? ⟨gb324, 0, none⟩ = some (.slice Ao65 t317.length co65) ∧ w'.cell? ⟨gb324, 1, none⟩ = some (u325001)) (ds := [5]) #[false, false, false, false, false, false] (by kernel_rfl) rfl rfl ⟨(blk_cell BK324.out 0).trans rfl, (blk_cell BK324.out 1).trans rfl⟩ (fun hHeld => ?_)
        generalize wr.drew = w102 at HO_325000 HO_325001 BK300 BK301 BK302 BK324 BK325 HB hHeld ⊢
        refine pure_ (i := 0) (N := some 141) (v := ?_) (a' := ?_) #[true, false, false, false, false, false] rfl rfl (by kernel_rfl) (fun _ _ _ h => h) (Or.inl ⟨by rfl, ?_⟩) ?_ ?_
        rotate_left
        ·intro w'
         go_simp
         with_reducible rfl
        rotate_left
        ·simp only [Act.put, List.setIfInBounds_toArray, List.set_cons_zero, List.set_cons_succ, i64_w, i32_w]
         rfl
        refine pure_ (i := 2) (N := some 143) (v := ?_) (a' := ?_) #[true, false, true, false, false, false] rfl rfl (by kernel_rfl) (fun _ _ _ h => h) (Or.inl ⟨by rfl, ?_⟩) ?_ ?_
        rotate_left
        ·intro w'
         go_simp
         with_reducible rfl
        rotate_left
        ·simp only [Act.put, List.setIfInBounds_toArray, List.set_cons_zero, List.set_cons_succ, i64_w, i32_w]
         rfl
        refine take_ (i := 1) (N := some 142) (v := ?_) (a' := ?_) #[true, true, true, false, false, false] rfl rfl (by kernel_rfl) (fun _ _ _ h => h) (Or.inl ⟨by rfl, ?_⟩) hHeld ?_ ?_
        rotate_left
        ·rintro w' ⟨s0, s1⟩
         go_simp
         with_reducible rfl
        rotate_left
        ·simp only [Act.put, List.setIfInBounds_toArray, List.set_cons_zero, List.set_cons_succ, i64_w, i32_w]
         rfl
        refine one_ (i := 3) (N := some 144) #[true, true, true, true, false, false] rfl rfl (by kernel_rfl) (by decide) (fun K hK => ?_)
        refine yg_ Try.func31 #[.pointer (some ⟨gb325, 0, none⟩), .int .i64 32] ?_
        with_reducible refine (wide_Acc_Fix.calls k3 gb325 x326000_3 x326001_3 x326002_3 32 t331 _ (zb_ BK325) A93.out).mono ?_
        rintro e w103 ⟨rfl, hb⟩
        refine ⟨_, rfl, ?_⟩
        replace HO_325000 := zy_ HO_325000 hb
        replace HO_325001 := zy_ HO_325001 hb
        replace BK300 := za_ BK300 hb
        replace BK301 := za_ BK301 hb
        replace BK302 := za_ BK302 hb
        replace BK324 := za_ BK324 hb
        replace BK325 := za_ BK325 hb
        replace HB := Aside0.mk (below_step (zw5_ HB GE300 GE301 GE302 GE324 GE325) hb)
        (try clear hb)
        (try clear hb2)
        (try clear hk)
        (try clear hi)
        have p96 : 0 ≤ (x97_2 : Int) := of_decide_eq_true (by first | (with_reducible assumption) | assumption)
        have q96 : (x97_2 : Int) < ((x325001_2.length : Int) : Int) := of_decide_eq_true (by first | (with_reducible assumption) | assumption)
        obtain ⟨go96, co96, eo96, gb96, gl96, cl96, HG96⟩ := Kd.R_form HO_325001.out (by omega)
        (first | cases eo96 | (injection eo96 with ea_ en_ ec_; (first | subst ea_ | (injection ea_ with ea_; subst ea_)); subst ec_; clear en_))
        have GB96 := Aside0.mk gb96
        have GG96 := Aside0.mk HG96
        clear gb96 gl96 HG96
        obtain ⟨hx96_0, hf96_0⟩ := Kd.R_celln 0 HO_325001.out (x97_2 : Int) p96 q96
        replace p96 := eq_true p96
        replace q96 := eq_true q96
        have HP104 := Kd.R_putn HO_325001.out (x97_2 : Int) t331
        rw [← Ny332.out] at HP104
        have HQ104 := Aside0.mk HP104
        clear HP104
        refine hK.out _ _ ⟨zx_ BK324 0, zx_ BK324 1⟩ (fun hHeld => ?_)
        clear hK K
        refine zq_ (some 144) (h := ?_)
        refine pure_ (i := 4) (N := some 145) (v := ?_) (a' := ?_) #[true, true, true, true, true, false] rfl rfl (by kernel_rfl) (fun _ _ _ h => h) (Or.inl ⟨by rfl, ?_⟩) ?_ ?_
        rotate_left
        ·intro w'
         go_simp
         with_reducible rfl
        rotate_left
        ·simp only [Act.put, List.setIfInBounds_toArray, List.set_cons_zero, List.set_cons_succ, i64_w, i32_w]
         rfl
        refine last_ (i := 5) (N := none) #[true, true, true, true, true, true] rfl rfl (by kernel_rfl) (by decide) (fun K hK => ?_)
        refine skip_ (w1 := ?_) (by rfl) rfl ?_ ?_
        rotate_left
        ·go_simp
         rfl
        refine hK.out _ _ ?_
        clear hK K
        refine done_ (by kernel_rfl) ?_
        try go_wp2
        go_roundg k3
        case measure => have := HJ4.out; have := HK2.out; have := HK3.out; omega
        case rel => exact ⟨(wrap64 (x97_2 + 1)), (y332), (.slice (some ⟨go96, 0, none⟩) x325001_2.length co96), z1_, H', ⟨by have := HJ4.out; have := HK2.out; have := HK3.out; omega⟩, ⟨zr_ (Kd.R_mono (Kd.R_far (p := ⟨go96, (x97_2 : Int).toNat, none⟩) (Kd.R_types HO_325000.out GG96.out (by decide)) (fun _ hk => hk.2) (.int .i64 t331)) (fun _ hk => trivial))⟩, ⟨zr_ HQ104.out⟩, ⟨by (with_reducible repeat (first | refine blk_drewN ?_ _ | refine blk_drew ?_ | refine blk_alloc ?_ _)); refine blk_far ?_ (by have h_ := Kd.R_ne HO_325001.out BK300.out (by decide); intro e_; exact h_ (by rw [e_]; rfl)) _; (with_reducible repeat (first | refine blk_drewN ?_ _ | refine blk_drew ?_ | refine blk_alloc ?_ _)); exact BK300.out⟩, ⟨by (with_reducible repeat (first | refine blk_drewN ?_ _ | refine blk_drew ?_ | refine blk_alloc ?_ _)); refine blk_far ?_ (by have h_ := Kd.R_ne HO_325001.out BK301.out (by decide); intro e_; exact h_ (by rw [e_]; rfl)) _; (with_reducible repeat (first | refine blk_drewN ?_ _ | refine blk_drew ?_ | refine blk_alloc ?_ _)); exact BK301.out⟩, ⟨by (with_reducible repeat (first | refine blk_drewN ?_ _ | refine blk_drew ?_ | refine blk_alloc ?_ _)); refine blk_far ?_ (by have h_ := Kd.R_ne HO_325001.out BK302.out (by decide); intro e_; exact h_ (by rw [e_]; rfl)) _; (with_reducible repeat (first | refine blk_drewN ?_ _ | refine blk_drew ?_ | refine blk_alloc ?_ _)); exact BK302.out⟩, ⟨by (with_reducible repeat (first | refine blk_drewN ?_ _ | refine blk_drew ?_ | refine blk_alloc ?_ _)); refine blk_far ?_ (by have h_ := Kd.R_ne HO_325001.out BK324.out (by decide); intro e_; exact h_ (by rw [e_]; rfl)) _; (with_reducible repeat (first | refine blk_drewN ?_ _ | refine blk_drew ?_ | refine blk_alloc ?_ _)); exact BK324.out⟩, ⟨by repeat (first | (with_reducible first | exact HB.out | apply below_alloc | apply pw_below_drewN | apply below_drew1 | refine below_set ?_ GB96.out | refine below_set ?_ GE300.out | refine below_set ?_ GE301.out | refine below_set ?_ GE302.out | refine below_set ?_ GE324.out | refine below_set ?_ GE325.out) | exact HB.out)⟩⟩
       rw [if_pos c77] at H
       have c77b0 : decide (x114_3 < (rd l0_0 1)) = true := decide_eq_true c77
       clear c77
       obtain ⟨ji78, hji78⟩ : ∃ j_ : Int, (wrap64 ((wrap64 ((wrap64 (Int.tdiv x97_2 (wrap64 ((rd l1_0 0) * a3)))) * (rd l0_0 1))) + x114_3)) = j_ := ⟨_, rfl⟩
       replace H : (if 0 ≤ (ji78) then (if (ji78) < (l0_1.length : Int) then (if 0 ≤ (wrap64 ((wrap64 ((wrap64 ((Int.tmod (wrap64 (Int.tdiv x97_2 a3)) (rd l1_0 0)) * (rd l1_0 1))) + (wrap64 (x114_3 * a2)))) + (Int.tmod x97_2 a3))) then (if (wrap64 ((wrap64 ((wrap64 ((Int.tmod (wrap64 (Int.tdiv x97_2 a3)) (rd l1_0 0)) * (rd l1_0 1))) + (wrap64 (x114_3 * a2)))) + (Int.tmod x97_2 a3))) < (l1_1.length : Int) then ((wide_Acc_Plus.f x326000_3 x326001_3 x326002_3 (rd l0_1 (ji78)) (rd l1_1 (wrap64 ((wrap64 ((wrap64 ((Int.tmod (wrap64 (Int.tdiv x97_2 a3)) (rd l1_0 0)) * (rd l1_0 1))) + (wrap64 (x114_3 * a2)))) + (Int.tmod x97_2 a3))))).bind fun bt328 => (conv_BackKernel.l1 k3 a2 a3 (rd l1_0 0) (rd l1_0 1) (rd l0_0 1) x97_2 (wrap64 (Int.tdiv x97_2 (wrap64 ((rd l1_0 0) * a3)))) (Int.tmod (wrap64 (Int.tdiv x97_2 a3)) (rd l1_0 0)) (Int.tmod x97_2 a3) (t320.length : Int) x97_2 (rd l0_0 1) (wrap64 (x114_3 + 1)) l0_0 l0_1 l1_0 l1_1 t317 x325001_2 bt328.1 bt328.2.1 bt328.2.2)) else (none)) else (none)) else (none)) else (none)) = some (r1, r2, r3) := by first | (rw [hji78] at H; exact H) | (simp only [hji78] at H ⊢; exact H)
       have hji78w : (IntKind.i64.wrap ((wrap64 ((wrap64 (Int.tdiv x97_2 (wrap64 ((rd l1_0 0) * a3)))) * (rd l0_0 1))) + x114_3)) = ji78 := (i64_w _).trans hji78
       by_cases c79 : 0 ≤ (ji78)
       rotate_left
       ·rw [if_neg c79] at H
        exact absurd H (by simp)
       rw [if_pos c79] at H
       have c79b0 : decide (0 ≤ (ji78)) = true := decide_eq_true c79
       clear c79
       by_cases c80 : (ji78) < (l0_1.length : Int)
       rotate_left
       ·rw [if_neg c80] at H
        exact absurd H (by simp)
       rw [if_pos c80] at H
       have c80b0 : decide ((ji78) < (l0_1.length : Int)) = true := decide_eq_true c80
       clear c80
       obtain ⟨ji81, hji81⟩ : ∃ j_ : Int, (wrap64 ((wrap64 ((wrap64 ((Int.tmod (wrap64 (Int.tdiv x97_2 a3)) (rd l1_0 0)) * (rd l1_0 1))) + (wrap64 (x114_3 * a2)))) + (Int.tmod x97_2 a3))) = j_ := ⟨_, rfl⟩
       replace H : (if 0 ≤ (ji81) then (if (ji81) < (l1_1.length : Int) then ((wide_Acc_Plus.f x326000_3 x326001_3 x326002_3 (rd l0_1 (ji78)) (rd l1_1 (ji81))).bind fun bt328 => (conv_BackKernel.l1 k3 a2 a3 (rd l1_0 0) (rd l1_0 1) (rd l0_0 1) x97_2 (wrap64 (Int.tdiv x97_2 (wrap64 ((rd l1_0 0) * a3)))) (Int.tmod (wrap64 (Int.tdiv x97_2 a3)) (rd l1_0 0)) (Int.tmod x97_2 a3) (t320.length : Int) x97_2 (rd l0_0 1) (wrap64 (x114_3 + 1)) l0_0 l0_1 l1_0 l1_1 t317 x325001_2 bt328.1 bt328.2.1 bt328.2.2)) else (none)) else (none)) = some (r1, r2, r3) := by first | (rw [hji81] at H; exact H) | (simp only [hji81] at H ⊢; exact H)
       have hji81w : (IntKind.i64.wrap ((wrap64 ((wrap64 ((Int.tmod (wrap64 (Int.tdiv x97_2 a3)) (rd l1_0 0)) * (rd l1_0 1))) + (wrap64 (x114_3 * a2)))) + (Int.tmod x97_2 a3))) = ji81 := (i64_w _).trans hji81
       by_cases c82 : 0 ≤ (ji81)
       rotate_left
       ·rw [if_neg c82] at H
        exact absurd H (by simp)
       rw [if_pos c82] at H
       have c82b0 : decide (0 ≤ (ji81)) = true := decide_eq_true c82
       clear c82
       by_cases c83 : (ji81) < (l1_1.length : Int)
       rotate_left
       ·rw [if_neg c83] at H
        exact absurd H (by simp)
       rw [if_pos c83] at H
       have c83b0 : decide ((ji81) < (l1_1.length : Int)) = true := decide_eq_true c83
       clear c83
       replace H := Option.bind_eq_some_iff.mp H
       obtain ⟨⟨t328, t329, t330⟩, A840, H⟩ := H
       (try dsimp only at H)
       have A84 := Aside0.mk A840
       clear A840
       have H' := Aside0.mk H
       clear H
       have hnb85 := NB325_300.out
       have hnc85 := NB300_325.out
       have hnb86 := NB325_301.out
       have hnc86 := NB301_325.out
       have hnb87 := NB325_302.out
       have hnc87 := NB302_325.out
       have hnb88 := NB325_324.out
       have hnc88 := NB324_325.out
       have hcz89_0 := zx_ (v := .int .i64 x326000_3) BK325 0
       have hcz89_1 := zx_ (v := .int .i64 x326001_3) BK325 1
       have hcz89_2 := zx_ (v := .int .u64 x326002_3) BK325 2
       have hfz89_0 := blk_frozen BK325.out 0
       have hfz89_1 := blk_frozen BK325.out 1
       have hfz89_2 := blk_frozen BK325.out 2
       try go_wp2
       replace HO_325000 := Aside0.mk (Kd.R_drew HO_325000.out)
       replace HO_325001 := Aside0.mk (Kd.R_drew HO_325001.out)
       replace BK300 := Aside0.mk (blk_drew BK300.out)
       replace BK301 := Aside0.mk (blk_drew BK301.out)
       replace BK302 := Aside0.mk (blk_drew BK302.out)
       replace BK324 := Aside0.mk (blk_drew BK324.out)
       replace BK325 := Aside0.mk (blk_drew BK325.out)
       replace HB := Aside0.mk (below_drew1 HB.out)
       have p326 : 0 ≤ ((ji78) : Int) := of_decide_eq_true (by first | (with_reducible assumption) | assumption)
       have q326 : (ji78) < (l0_1.length : Int) := of_decide_eq_true (by first | (with_reducible assumption) | assumption)
       obtain ⟨ad326, e326, hx326_0⟩ := Kd.at_int HR0_1.out (ji78) p326 q326
       have hw326_0 := hx326_0
       cases e326
       replace hx326_0 := (HB.out.cell (World.block_lt_of_cell? w _ hx326_0)).trans hx326_0
       replace p326 := eq_true p326
       replace q326 := eq_true q326
       have p327 : 0 ≤ ((ji81) : Int) := of_decide_eq_true (by first | (with_reducible assumption) | assumption)
       have q327 : (ji81) < (l1_1.length : Int) := of_decide_eq_true (by first | (with_reducible assumption) | assumption)
       obtain ⟨ad327, e327, hx327_0⟩ := Kd.at_int HR1_1.out (ji81) p327 q327
       have hw327_0 := hx327_0
       cases e327
       replace hx327_0 := (HB.out.cell (World.block_lt_of_cell? w _ hx327_0)).trans hx327_0
       replace p327 := eq_true p327
       replace q327 := eq_true q327
       refine start_ (n := 23) (S := fun w' => w'.cell? ⟨gb300, 0, none⟩ = some (.slice (some ad309) l0_0.length c0_0) ∧ w'.cell? ⟨gb300, 1, none⟩ = some (.slice (some ad326) l0_1.length c0_1) ∧ w'.cell? ⟨gb301, 0, none⟩ = some (.slice (some ad307) l1_0.length c1_0) ∧ w'.cell? ⟨gb301, 1, none⟩ = some (.slice (some ad327) l1_1.length c1_1) ∧ w'.cell? (ad326.add ((ji78)).toNat) = some (.int .i64 (rd l0_1 (ji78))) ∧ w'.cell? (ad327.add ((ji81)).toNat) = some (.int .i64 (rd l1_1 (ji81)))) (ds := [22]) #[false, false, false, false, false, false, false, false, false, false, false, false, false, false, false, false, false, false, false, false, false, false, false] (by kernel_rfl) rfl rfl ⟨(blk_cell BK300.out 0).trans rfl, (blk_cell BK300.out 1).trans rfl, (blk_cell BK301.out 0).trans rfl, (blk_cell BK301.out 1).trans rfl, ((HB.out.cell (World.block_lt_of_cell? w _ hw326_0)).trans hw326_0), ((HB.out.cell (World.block_lt_of_cell? w _ hw327_0)).trans hw327_0)⟩ (fun hHeld => ?_); refine with_tabW conv_BackKernel.tab17 conv_BackKernel.bits17 (fun HT_ HW_ => ?_)
       generalize wr.drew = w90 at HO_325000 HO_325001 BK300 BK301 BK302 BK324 BK325 HB hx326_0 hx327_0 hHeld ⊢
       refine yp_ ?_ 0 117
       refine yp_ ?_ 2 119
       refine yp_ ?_ 3 120
       refine yp_ ?_ 4 121
       refine yp_ ?_ 5 122
       refine yp_ ?_ 6 123
       refine yp_ ?_ 9 126
       refine yp_ ?_ 11 128
       refine yp_ ?_ 12 129
       refine yp_ ?_ 13 130
       refine yp_ ?_ 14 131
       refine yp_ ?_ 15 132
       refine yp_ ?_ 16 133
       refine yp_ ?_ 17 134
       refine yp_ ?_ 18 135
       refine yp_ ?_ 19 136
       refine yt6_ ?_ 1 118
       refine yp_ ?_ 7 124
       refine yt6_ ?_ 8 125
       refine yt6_ ?_ 10 127
       refine yp_ ?_ 20 137
       refine yt6_ ?_ 21 138
       refine yl_ 22 (some 139) (fun K hK => ?_)
       refine goes_ Try.func30 (by kernel_rfl) rfl #[.pointer (some ⟨gb325, 0, none⟩), .int .i64 (rd l0_1 (ji78)), .int .i64 (rd l1_1 (ji81))] (by rfl) rfl rfl (by (try simp only [List.map_toArray, List.map_cons, List.map_nil]); first | done | (simp only [hji78, hji81]; rfl) | rfl | (simp only [List.length_drop, List.length_take]; rfl)) ?_
       with_reducible refine (wide_Acc_Plus.calls gb325 x326000_3 x326001_3 x326002_3 (rd l0_1 (ji78)) (rd l1_1 (ji81)) t328 t329 t330 _ (zb_ BK325) A84.out).mono ?_
       rintro e _ ⟨rfl, w91, hb, rfl⟩
       refine ⟨_, rfl, ?_⟩
       replace HO_325000 := zy_ HO_325000 hb
       replace HO_325001 := zy_ HO_325001 hb
       replace BK300 := za_ BK300 hb
       replace BK301 := za_ BK301 hb
       replace BK302 := za_ BK302 hb
       replace BK324 := za_ BK324 hb
       replace BK325 := za_ BK325 hb
       replace HB := Aside0.mk (below_step (zw5_ HB GE300 GE301 GE302 GE324 GE325) hb)
       (try clear hb)
       (try clear hb2)
       (try clear hk)
       (try clear hi)
       refine hK.out _ _ ?_
       clear hK K
       refine zq_ (some 139) (h := ?_)
       refine done_ (done_of HT_.out (by kernel_rfl)) ?_
       have hcz92_0 := zx_ (v := .int .i64 x326000_3) BK325 0
       have hcz92_1 := zx_ (v := .int .i64 x326001_3) BK325 1
       have hcz92_2 := zx_ (v := .int .u64 x326002_3) BK325 2
       have hfz92_0 := blk_frozen BK325.out 0
       have hfz92_1 := blk_frozen BK325.out 1
       have hfz92_2 := blk_frozen BK325.out 2
       try go_wp2
       go_roundg k3
       case measure => have := HJ4.out; have := HK2.out; have := HK3.out; omega
       case rel => exact ⟨(wrap64 (x114_3 + 1)), (t328), (t329), (t330), z1_, H', ⟨by have := HJ4.out; have := HK2.out; have := HK3.out; omega⟩, ⟨zr_ (Kd.R_mono (Kd.R_far (p := ⟨gb325, 2, none⟩) (Kd.R_far (p := ⟨gb325, 1, none⟩) (Kd.R_far (p := ⟨gb325, 0, none⟩) (Kd.R_types HO_325000.out BK325.out (by decide)) (fun _ hk => hk.2) (.int .i64 t328)) (fun _ hk => hk.2) (.int .i64 t329)) (fun _ hk => hk.2) (.int .u64 t330)) (fun _ hk => trivial))⟩, ⟨zr_ (Kd.R_mono (Kd.R_far (p := ⟨gb325, 2, none⟩) (Kd.R_far (p := ⟨gb325, 1, none⟩) (Kd.R_far (p := ⟨gb325, 0, none⟩) (Kd.R_types HO_325001.out BK325.out (by decide)) (fun _ hk => hk.2) (.int .i64 t328)) (fun _ hk => hk.2) (.int .i64 t329)) (fun _ hk => hk.2) (.int .u64 t330)) (fun _ hk => trivial))⟩, ⟨zv1_ BK300 NB300_325⟩, ⟨zv1_ BK301 NB301_325⟩, ⟨zv1_ BK302 NB302_325⟩, ⟨zv1_ BK324 NB324_325⟩, ⟨zo3_ BK325⟩, ⟨zw5_ HB GE300 GE301 GE302 GE324 GE325⟩⟩

end Go.Proofs.Ytcipfhlcgnomaaa.PConvKnown
