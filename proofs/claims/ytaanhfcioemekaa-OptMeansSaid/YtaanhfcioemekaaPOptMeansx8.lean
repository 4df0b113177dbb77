/- The functions that the law OptMeans reaches, as Lean functions, and that each call of the Go function does what its Lean function says, wherever that one answers. Written by a program of mine over the print of the kit; Lean checks it. -/
import Derived.Test.YtaanhfcioemekaaPOptMeansx0
import Derived.Test.YtaanhfcioemekaaPOptMeansx2
import Derived.Test.YtaanhfcioemekaaPOptMeansx6
import Derived.Test.YtaanhfcioemekaaPOptMeansx7
namespace Go.Proofs.Ytaanhfcioemekaa.POptMeans
open Go.RowKit Go.Proofs.YtaanhfcioemekaaW.PrintWords Go.Proofs.YtaanhfcioemekaaW.PrintLast Go.Proofs.YtaanhfcioemekaaW.PrintMore
attribute [local go_sem] max2_int min2_int max_two min_two max_three min_three max_four min_four   -- for this text's walks alone
set_option linter.unusedVariables false
set_option linter.unusedSimpArgs false

/-! ### carousellaw15_OptMeans: function 8 -/
mutual
def carousellaw15_OptMeans.j0 : Nat → List Int → List Int → List Int → Int → Bool → Int → Int → Int → Option (Bool)
  | 0, _, _, _, _, _, _, _, _ => none
  | k + 1, x0, x1, x2, x3, x50, x225000, x225001, x225002 => if x50 = true then (some true) else (carousellaw15_OptMeans.l0 k x0 x1 x2 x3 ([] : List (S30)) ([] : List (S30)) 0 x225000 x225001 x225002)
def carousellaw15_OptMeans.l0 : Nat → List Int → List Int → List Int → Int → List (S30) → List (S30) → Int → Int → Int → Int → Option (Bool)
  | 0, _, _, _, _, _, _, _, _, _, _ => none
  | k + 1, x0, x1, x2, x3, x11, x12, x13, x225000, x225001, x225002 => if x13 < (x2.length : Int) then (if 0 ≤ x13 then ((wide_Of.f (rd x2 x13)).bind fun bt227 => (if x11.length < 8796093022208 then ((wide_Of.f (rd x2 x13)).bind fun bt233 => ((wide_Of.f (rd x2 x13)).bind fun bt236 => ((wide_Add.f bt233.1 bt233.2 bt236.1 bt236.2).bind fun bt238 => (if x12.length < 8796093022208 then (carousellaw15_OptMeans.l0 k x0 x1 x2 x3 (x11 ++ [(⟨bt227.1, bt227.2⟩ : S30)]) (x12 ++ [(⟨bt238.1, bt238.2⟩ : S30)]) (wrap64 (x13 + 1)) x225000 x225001 x225002) else (none))))) else (none))) else (none)) else ((opt_Apply.f k x0 x1 x11 x3 x225000 x225001 x225002).bind fun bt243 => ((opt_Apply.f k x0 x1 x12 (wrap64 (2 * x3)) x225000 x225001 x225002).bind fun bt251 => (if bt243.2.2 = 0 then (if bt251.2.2 = 0 then (if (bt243.1.length : Int) = (x0.length : Int) then (carousellaw15_OptMeans.j2 k x0 ((bt251.1.length : Int) != (x0.length : Int)) bt243.1 bt243.2.1 bt251.1 bt251.2.1) else (carousellaw15_OptMeans.j2 k x0 true bt243.1 bt243.2.1 bt251.1 bt251.2.1)) else (carousellaw15_OptMeans.j2 k x0 true bt243.1 bt243.2.1 bt251.1 bt251.2.1)) else (carousellaw15_OptMeans.j2 k x0 true bt243.1 bt243.2.1 bt251.1 bt251.2.1))))
def carousellaw15_OptMeans.j2 : Nat → List Int → Bool → List Int → List Int → List Int → List Int → Option (Bool)
  | 0, _, _, _, _, _, _ => none
  | k + 1, x0, x121, x251000, x251001, x259000, x259001 => if x121 = true then (none) else (carousellaw15_OptMeans.l1 k x0 0 x251000 x251001 x259000 x259001)
def carousellaw15_OptMeans.l1 : Nat → List Int → Int → List Int → List Int → List Int → List Int → Option (Bool)
  | 0, _, _, _, _, _, _ => none
  | k + 1, x0, x18, x251000, x251001, x259000, x259001 => if x18 < (x0.length : Int) then (if 0 ≤ x18 then (if x18 < (x251000.length : Int) then (if x18 < (x259000.length : Int) then (if (rd x251000 x18) = (rd x259000 x18) then (if x18 < (x251001.length : Int) then (if x18 < (x259001.length : Int) then (if (rd x251001 x18) = (rd x259001 x18) then (carousellaw15_OptMeans.l1 k x0 (wrap64 (x18 + 1)) x251000 x251001 x259000 x259001) else (none)) else (none)) else (none)) else (none)) else (none)) else (none)) else (none)) else (some true)
end
def carousellaw15_OptMeans.f (k : Nat) (l0 : List Int) (l1 : List Int) (l2 : List Int) (a3 : Int) (a4_0 : Int) (a4_1 : Int) (a4_2 : Int) : Option (Bool) := (carousellaw15_awake.f k).bind fun t225 => (if t225 = true then (if (l0.length : Int) > 40 then (carousellaw15_OptMeans.j0 k l0 l1 l2 a3 true a4_0 a4_1 a4_2) else (if (l1.length : Int) = (l0.length : Int) then (if (l2.length : Int) = (l0.length : Int) then (if a3 < 1 then (carousellaw15_OptMeans.j0 k l0 l1 l2 a3 true a4_0 a4_1 a4_2) else (if a3 > 1099511627776 then (carousellaw15_OptMeans.j0 k l0 l1 l2 a3 true a4_0 a4_1 a4_2) else (carousellaw15_OptMeans.j0 k l0 l1 l2 a3 (decide (a4_2 < 0)) a4_0 a4_1 a4_2))) else (carousellaw15_OptMeans.j0 k l0 l1 l2 a3 true a4_0 a4_1 a4_2)) else (carousellaw15_OptMeans.j0 k l0 l1 l2 a3 true a4_0 a4_1 a4_2))) else (none))
theorem carousellaw15_OptMeans.mono_l : ∀ k, (∀ y0 y1 y2 y3 y4 y5 y6 y7, LeO (carousellaw15_OptMeans.j0 k y0 y1 y2 y3 y4 y5 y6 y7) (carousellaw15_OptMeans.j0 (k + 1) y0 y1 y2 y3 y4 y5 y6 y7)) ∧ (∀ y0 y1 y2 y3 y4 y5 y6 y7 y8 y9, LeO (carousellaw15_OptMeans.l0 k y0 y1 y2 y3 y4 y5 y6 y7 y8 y9) (carousellaw15_OptMeans.l0 (k + 1) y0 y1 y2 y3 y4 y5 y6 y7 y8 y9)) ∧ (∀ y0 y1 y2 y3 y4 y5, LeO (carousellaw15_OptMeans.j2 k y0 y1 y2 y3 y4 y5) (carousellaw15_OptMeans.j2 (k + 1) y0 y1 y2 y3 y4 y5)) ∧ (∀ y0 y1 y2 y3 y4 y5, LeO (carousellaw15_OptMeans.l1 k y0 y1 y2 y3 y4 y5) (carousellaw15_OptMeans.l1 (k + 1) y0 y1 y2 y3 y4 y5))
  | 0 => ⟨fun _ _ _ _ _ _ _ _ r h => by simp [carousellaw15_OptMeans.j0] at h, fun _ _ _ _ _ _ _ _ _ _ r h => by simp [carousellaw15_OptMeans.l0] at h, fun _ _ _ _ _ _ r h => by simp [carousellaw15_OptMeans.j2] at h, fun _ _ _ _ _ _ r h => by simp [carousellaw15_OptMeans.l1] at h⟩
  | k + 1 => by
    obtain ⟨ih0, ih1, ih2, ih3⟩ := carousellaw15_OptMeans.mono_l k
    refine ⟨?_, ?_, ?_, ?_⟩
    · intro y0 y1 y2 y3 y4 y5 y6 y7
      unfold carousellaw15_OptMeans.j0
      repeat' first
      | (with_reducible exact ih0 _ _ _ _ _ _ _ _)
      | (with_reducible exact ih1 _ _ _ _ _ _ _ _ _ _)
      | (with_reducible exact ih2 _ _ _ _ _ _)
      | (with_reducible exact ih3 _ _ _ _ _ _)
      | (with_reducible exact carousellaw15_awake.mono _)
      | (with_reducible exact opt_Apply.mono _ _ _ _ _ _ _ _)
      | (with_reducible exact LeO.refl _)
      | (with_reducible exact LeO.none _)
      | (with_reducible refine LeO.ite ?_ ?_)
      | (with_reducible refine LeO.bind ?_ (fun _ => ?_))
      | exact ih0 _ _ _ _ _ _ _ _
      | exact ih1 _ _ _ _ _ _ _ _ _ _
      | exact ih2 _ _ _ _ _ _
      | exact ih3 _ _ _ _ _ _
      | exact carousellaw15_awake.mono _
      | exact opt_Apply.mono _ _ _ _ _ _ _ _
      | exact LeO.none _
      | refine LeO.ite ?_ ?_
      | refine LeO.bind ?_ (fun _ => ?_)
    · intro y0 y1 y2 y3 y4 y5 y6 y7 y8 y9
      unfold carousellaw15_OptMeans.l0
      repeat' first
      | (with_reducible exact ih0 _ _ _ _ _ _ _ _)
      | (with_reducible exact ih1 _ _ _ _ _ _ _ _ _ _)
      | (with_reducible exact ih2 _ _ _ _ _ _)
      | (with_reducible exact ih3 _ _ _ _ _ _)
      | (with_reducible exact carousellaw15_awake.mono _)
      | (with_reducible exact opt_Apply.mono _ _ _ _ _ _ _ _)
      | (with_reducible exact LeO.refl _)
      | (with_reducible exact LeO.none _)
      | (with_reducible refine LeO.ite ?_ ?_)
      | (with_reducible refine LeO.bind ?_ (fun _ => ?_))
      | exact ih0 _ _ _ _ _ _ _ _
      | exact ih1 _ _ _ _ _ _ _ _ _ _
      | exact ih2 _ _ _ _ _ _
      | exact ih3 _ _ _ _ _ _
      | exact carousellaw15_awake.mono _
      | exact opt_Apply.mono _ _ _ _ _ _ _ _
      | exact LeO.none _
      | refine LeO.ite ?_ ?_
      | refine LeO.bind ?_ (fun _ => ?_)
    · intro y0 y1 y2 y3 y4 y5
      unfold carousellaw15_OptMeans.j2
      repeat' first
      | (with_reducible exact ih0 _ _ _ _ _ _ _ _)
      | (with_reducible exact ih1 _ _ _ _ _ _ _ _ _ _)
      | (with_reducible exact ih2 _ _ _ _ _ _)
      | (with_reducible exact ih3 _ _ _ _ _ _)
      | (with_reducible exact carousellaw15_awake.mono _)
      | (with_reducible exact opt_Apply.mono _ _ _ _ _ _ _ _)
      | (with_reducible exact LeO.refl _)
      | (with_reducible exact LeO.none _)
      | (with_reducible refine LeO.ite ?_ ?_)
      | (with_reducible refine LeO.bind ?_ (fun _ => ?_))
      | exact ih0 _ _ _ _ _ _ _ _
      | exact ih1 _ _ _ _ _ _ _ _ _ _
      | exact ih2 _ _ _ _ _ _
      | exact ih3 _ _ _ _ _ _
      | exact carousellaw15_awake.mono _
      | exact opt_Apply.mono _ _ _ _ _ _ _ _
      | exact LeO.none _
      | refine LeO.ite ?_ ?_
      | refine LeO.bind ?_ (fun _ => ?_)
    · intro y0 y1 y2 y3 y4 y5
      unfold carousellaw15_OptMeans.l1
      repeat' first
      | (with_reducible exact ih0 _ _ _ _ _ _ _ _)
      | (with_reducible exact ih1 _ _ _ _ _ _ _ _ _ _)
      | (with_reducible exact ih2 _ _ _ _ _ _)
      | (with_reducible exact ih3 _ _ _ _ _ _)
      | (with_reducible exact carousellaw15_awake.mono _)
      | (with_reducible exact opt_Apply.mono _ _ _ _ _ _ _ _)
      | (with_reducible exact LeO.refl _)
      | (with_reducible exact LeO.none _)
      | (with_reducible refine LeO.ite ?_ ?_)
      | (with_reducible refine LeO.bind ?_ (fun _ => ?_))
      | exact ih0 _ _ _ _ _ _ _ _
      | exact ih1 _ _ _ _ _ _ _ _ _ _
      | exact ih2 _ _ _ _ _ _
      | exact ih3 _ _ _ _ _ _
      | exact carousellaw15_awake.mono _
      | exact opt_Apply.mono _ _ _ _ _ _ _ _
      | exact LeO.none _
      | refine LeO.ite ?_ ?_
      | refine LeO.bind ?_ (fun _ => ?_)
theorem carousellaw15_OptMeans.mono : ∀ a0 a1 a2 a3 a4 a5 a6 k, LeO (carousellaw15_OptMeans.f k a0 a1 a2 a3 a4 a5 a6) (carousellaw15_OptMeans.f (k + 1) a0 a1 a2 a3 a4 a5 a6) := by
  intro a0 a1 a2 a3 a4 a5 a6 k
  obtain ⟨ih0, ih1, ih2, ih3⟩ := carousellaw15_OptMeans.mono_l k
  unfold carousellaw15_OptMeans.f
  repeat' first
      | (with_reducible exact ih0 _ _ _ _ _ _ _ _)
      | (with_reducible exact ih1 _ _ _ _ _ _ _ _ _ _)
      | (with_reducible exact ih2 _ _ _ _ _ _)
      | (with_reducible exact ih3 _ _ _ _ _ _)
      | (with_reducible exact carousellaw15_awake.mono _)
      | (with_reducible exact opt_Apply.mono _ _ _ _ _ _ _ _)
      | (with_reducible exact LeO.refl _)
      | (with_reducible exact LeO.none _)
      | (with_reducible refine LeO.ite ?_ ?_)
      | (with_reducible refine LeO.bind ?_ (fun _ => ?_))
      | exact ih0 _ _ _ _ _ _ _ _
      | exact ih1 _ _ _ _ _ _ _ _ _ _
      | exact ih2 _ _ _ _ _ _
      | exact ih3 _ _ _ _ _ _
      | exact carousellaw15_awake.mono _
      | exact opt_Apply.mono _ _ _ _ _ _ _ _
      | exact LeO.none _
      | refine LeO.ite ?_ ?_
      | refine LeO.bind ?_ (fun _ => ?_)
def carousellaw15_OptMeans.T10 : Bool × List (List Nat × List Nat) := (true, [([], []), ([], []), ([], []), ([1, 2], [1, 2]), ([3], [3]), ([4], [4]), ([], []), ([], []), ([6, 7], [6, 7]), ([8], [8]), ([9, 5], [9]), ([5, 10, 10], [5, 10]), ([11], [11]), ([0, 12, 11], [0, 12]), ([13, 13, 0, 1, 2, 3, 4, 5, 6, 7, 8, 9, 10, 11, 12, 13], [0, 13])])
def carousellaw15_OptMeans.B10 : List Nat := [0, 0, 0, 6, 14, 30, 0, 0, 192, 448, 1022, 2046, 4094, 8191, 16383]
theorem carousellaw15_OptMeans.tab10 : rtab .any (opsOf Try.f8 10) = carousellaw15_OptMeans.T10 := by kernel_rfl
theorem carousellaw15_OptMeans.bits10 : waitsOk carousellaw15_OptMeans.T10.2 carousellaw15_OptMeans.B10 = true := by kernel_rfl
def carousellaw15_OptMeans.T18 : Bool × List (List Nat × List Nat) := (true, [([], []), ([0], [0]), ([], []), ([1, 2], [1, 2]), ([3], [3]), ([], []), ([5], [5]), ([], []), ([6, 7], [6, 7]), ([8], [8]), ([4, 9], [4, 9]), ([10], [10]), ([11], [11]), ([12, 11], [11, 12]), ([11], [11]), ([13, 14, 11], [11, 13, 14]), ([15, 11], [11, 15]), ([11], [11]), ([17, 11], [11, 17]), ([11], [11]), ([18, 19, 11], [11, 18, 19]), ([20, 11], [11, 20]), ([16, 21, 11], [11, 16, 21]), ([11, 22], [11, 22])])
def carousellaw15_OptMeans.B18 : List Nat := [0, 1, 0, 7, 15, 0, 32, 0, 224, 480, 1023, 2047, 4095, 8191, 4095, 32767, 65535, 4095, 135167, 4095, 921599, 1970175, 4194303, 8388607]
theorem carousellaw15_OptMeans.tab18 : rtab .any (opsOf Try.f8 18) = carousellaw15_OptMeans.T18 := by kernel_rfl
theorem carousellaw15_OptMeans.bits18 : waitsOk carousellaw15_OptMeans.T18.2 carousellaw15_OptMeans.B18 = true := by kernel_rfl
set_option maxHeartbeats 8000000 in
set_option maxRecDepth 100000 in
theorem carousellaw15_OptMeans.calls (k : Nat) (A0 : Option Addr) (c0 : Nat) (l0 : List Int) (A1 : Option Addr) (c1 : Nat) (l1 : List Int) (A2 : Option Addr) (c2 : Nat) (l2 : List Int) (a3 : Int) (a4_0 : Int) (a4_1 : Int) (a4_2 : Int) (r : Bool) (w : World) (hr0 : Kd.C (Kd.int .i64) w A0 l0.length l0) (hc0 : l0.length ≤ c0) (hr1 : Kd.C (Kd.int .i64) w A1 l1.length l1) (hc1 : l1.length ≤ c1) (hr2 : Kd.C (Kd.int .i64) w A2 l2.length l2) (hc2 : l2.length ≤ c2) (h : carousellaw15_OptMeans.f k l0 l1 l2 a3 a4_0 a4_1 a4_2 = some r) :
    Calls Try.prog 8 #[.slice A0 l0.length c0, .slice A1 l1.length c1, .slice A2 l2.length c2, .int .i64 a3, .agg #[.int .i64 a4_0, .int .i64 a4_1, .int .i64 a4_2]] w fun e w' => e = .returned (.bool r) ∧ Below w.heap.size w w' := by
  have hu37 := Try.underlying37
  have hu25 := Try.underlying25
  have HR0 := Aside0.mk hr0
  have HC0 := Aside0.mk hc0
  clear hr0 hc0
  have HR1 := Aside0.mk hr1
  have HC1 := Aside0.mk hc1
  clear hr1 hc1
  have HR2 := Aside0.mk hr2
  have HC2 := Aside0.mk hc2
  clear hr2 hc2
  have HB := Aside0.mk (Below.refl w.heap.size w)
  have H : ((carousellaw15_awake.f k).bind fun t225 => (if t225 = true then (if (l0.length : Int) > 40 then (carousellaw15_OptMeans.j0 k l0 l1 l2 a3 true a4_0 a4_1 a4_2) else (if (l1.length : Int) = (l0.length : Int) then (if (l2.length : Int) = (l0.length : Int) then (if a3 < 1 then (carousellaw15_OptMeans.j0 k l0 l1 l2 a3 true a4_0 a4_1 a4_2) else (if a3 > 1099511627776 then (carousellaw15_OptMeans.j0 k l0 l1 l2 a3 true a4_0 a4_1 a4_2) else (carousellaw15_OptMeans.j0 k l0 l1 l2 a3 (decide (a4_2 < 0)) a4_0 a4_1 a4_2))) else (carousellaw15_OptMeans.j0 k l0 l1 l2 a3 true a4_0 a4_1 a4_2)) else (carousellaw15_OptMeans.j0 k l0 l1 l2 a3 true a4_0 a4_1 a4_2))) else (none))) = some r := h
  clear h
  replace H := Option.bind_eq_some_iff.mp H
  obtain ⟨t225, A60, H⟩ := H
  replace H : (if t225 = true then (if (l0.length : Int) > 40 then (carousellaw15_OptMeans.j0 k l0 l1 l2 a3 true a4_0 a4_1 a4_2) else (if (l1.length : Int) = (l0.length : Int) then (if (l2.length : Int) = (l0.length : Int) then (if a3 < 1 then (carousellaw15_OptMeans.j0 k l0 l1 l2 a3 true a4_0 a4_1 a4_2) else (if a3 > 1099511627776 then (carousellaw15_OptMeans.j0 k l0 l1 l2 a3 true a4_0 a4_1 a4_2) else (carousellaw15_OptMeans.j0 k l0 l1 l2 a3 (decide (a4_2 < 0)) a4_0 a4_1 a4_2))) else (carousellaw15_OptMeans.j0 k l0 l1 l2 a3 true a4_0 a4_1 a4_2)) else (carousellaw15_OptMeans.j0 k l0 l1 l2 a3 true a4_0 a4_1 a4_2))) else (none)) = some r := H
  have A6 := Aside0.mk A60
  clear A60
  by_cases c7 : t225 = true
  · subst c7
    have H1 : (if (l0.length : Int) > 40 then (carousellaw15_OptMeans.j0 k l0 l1 l2 a3 true a4_0 a4_1 a4_2) else (if (l1.length : Int) = (l0.length : Int) then (if (l2.length : Int) = (l0.length : Int) then (if a3 < 1 then (carousellaw15_OptMeans.j0 k l0 l1 l2 a3 true a4_0 a4_1 a4_2) else (if a3 > 1099511627776 then (carousellaw15_OptMeans.j0 k l0 l1 l2 a3 true a4_0 a4_1 a4_2) else (carousellaw15_OptMeans.j0 k l0 l1 l2 a3 (decide (a4_2 < 0)) a4_0 a4_1 a4_2))) else (carousellaw15_OptMeans.j0 k l0 l1 l2 a3 true a4_0 a4_1 a4_2)) else (carousellaw15_OptMeans.j0 k l0 l1 l2 a3 true a4_0 a4_1 a4_2))) = some r := by rw [if_pos rfl] at H; exact H
    clear H
    have H := H1
    clear H1
    have HC8 := Aside0.mk H
    clear H
    go_enter Try.func8, Try.ntmps8
    go_upto_region 3 with (first | ((with_reducible refine gate_dst (N := 9) rfl ?_); (try (refine gate_guard (by rfl) ?_; dsimp only)); refine box_event ?hg (N := 9) ?hd (cs := #[.int .i64 a4_0, .int .i64 a4_1, .int .i64 a4_2]) (t := 37) ?hr ?_; (case hd => rfl); (case hg => rfl); (case hr => first | (go_simp; done) | (go_simp; rfl)); intro gb224 hg w9 hbox hb; have n0_ := Aside0.mk (below_step (by repeat (first | (with_reducible first | exact HB.out | apply below_alloc | apply pw_below_drewN | apply below_drew1) | exact HB.out)) hb); have n1_ := Aside0.mk (hbox); have n2_ := Aside0.mk ((by rw [hg]; exact (below_size (by repeat (first | (with_reducible first | exact HB.out | apply below_alloc | apply pw_below_drewN | apply below_drew1) | exact HB.out))) : w.heap.size ≤ gb224)); have n3_ := Aside0.mk ((by rw [hg]; exact (below_size (by repeat (first | (with_reducible first | exact HB.out | apply below_alloc | apply pw_below_drewN | apply below_drew1) | exact HB.out))) : w.heap.size ≤ gb224)); clear HB; have HB := n0_; have BK224 := n1_; have GW224 := n2_; have GE224 := n3_; clear n0_ n1_ n2_ n3_; clear hb hbox hg) | ((with_reducible refine gate_callee (f := 9) rfl ?_); refine goesL_ (some 19) rfl rfl Try.func9 (by kernel_rfl) rfl #[] rfl (by (try simp only [List.map_toArray, List.map_cons, List.map_nil]); first | done | rfl | (simp only [List.length_drop, List.length_take]; rfl)) ?_; (with_reducible refine (carousellaw15_awake.calls k  true _ A6.out).mono ?_); rintro e w10 ⟨rfl, hb⟩; refine ⟨_, rfl, ?_⟩; have n0_ := Aside0.mk (blk_below (g := gb224) (o := .cells #[.int .i64 a4_0, .int .i64 a4_1, .int .i64 a4_2] 37 (0, 0)) (by (with_reducible repeat (first | refine blk_drewN ?_ _ | refine blk_drew ?_ | refine blk_alloc ?_ _)); exact BK224.out) hb); have n1_ := Aside0.mk (below_step (by repeat (first | (with_reducible first | exact HB.out | apply below_alloc | apply pw_below_drewN | apply below_drew1 | refine below_set ?_ GE224.out) | exact HB.out)) hb); clear BK224; clear HB; have BK224 := n0_; have HB := n1_; clear n0_ n1_; (try clear hb); (try clear hb2); (try clear hk); (try clear hi)))
    (try simp only [Act.put, List.setIfInBounds_toArray, List.set_cons_zero, List.set_cons_succ])
    go_cut [50] (fun v50 wc => ∃ (kq : Nat) (x50_7 : Bool), v50 = .bool x50_7 ∧ Aside0 (carousellaw15_OptMeans.j0 kq l0 l1 l2 a3 x50_7 a4_0 a4_1 a4_2 = some r) ∧ Aside0 (kq ≤ k) ∧ Aside0 (wc.heap[gb224]? = some (.cells #[.int .i64 a4_0, .int .i64 a4_1, .int .i64 a4_2] 37 (0, 0))) ∧ Aside0 (Below w.heap.size w wc))
    case first =>
      have H := HC8.out
      clear HC8
      by_cases c11 : (l0.length : Int) > 40
      · rw [if_pos c11] at H
        have c11b0 : decide (40 < (l0.length : Int)) = true := decide_eq_true c11
        have c11b1 : decide (40 < l0.length) = true := decide_eq_true (by omega)
        clear c11
        (first | rw [c11b0] | (simp only [i64_w, i32_w]; rw [c11b0]) | rw [c11b1] | skip)
        have H' := Aside0.mk H
        clear H
        go_wp2
        go_meet
        case rel => exact ⟨_, (true), (by first | rfl | (simp; done) | (simp [*]; done)), H', ⟨by first | omega | exact Nat.le_refl _⟩, ⟨by (with_reducible repeat (first | refine blk_drewN ?_ _ | refine blk_drew ?_ | refine blk_alloc ?_ _)); exact BK224.out⟩, ⟨by repeat (first | (with_reducible first | exact HB.out | apply below_alloc | apply pw_below_drewN | apply below_drew1 | refine below_set ?_ GE224.out) | exact HB.out)⟩⟩
      · rw [if_neg c11] at H
        have c11b0 : decide (40 < (l0.length : Int)) = false := decide_eq_false c11
        have c11b1 : decide (40 < l0.length) = false := decide_eq_false (by omega)
        clear c11
        (first | rw [c11b0] | (simp only [i64_w, i32_w]; rw [c11b0]) | rw [c11b1] | skip)
        by_cases c12 : (l1.length : Int) = (l0.length : Int)
        · rw [if_pos c12] at H
          have c12b0 : ((l1.length : Int) == (l0.length : Int)) = true := beq_iff_eq.mpr c12
          have c12b1 : ((l1.length : Int) != (l0.length : Int)) = false := bne_eq_false_iff_eq.mpr c12
          have c12b2 : (l1.length == l0.length) = true := by first | simpa using c12 | (simp at c12 ⊢; omega)
          clear c12
          by_cases c13 : (l2.length : Int) = (l0.length : Int)
          · rw [if_pos c13] at H
            have c13b0 : ((l2.length : Int) == (l0.length : Int)) = true := beq_iff_eq.mpr c13
            have c13b1 : ((l2.length : Int) != (l0.length : Int)) = false := bne_eq_false_iff_eq.mpr c13
            have c13b2 : (l2.length == l0.length) = true := by first | simpa using c13 | (simp at c13 ⊢; omega)
            clear c13
            by_cases c14 : a3 < 1
            · rw [if_pos c14] at H
              have c14b0 : decide (a3 < 1) = true := decide_eq_true c14
              clear c14
              have H' := Aside0.mk H
              clear H
              go_wp2
              go_meet
              case rel => exact ⟨_, (true), (by first | rfl | (simp; done) | (simp [*]; done)), H', ⟨by first | omega | exact Nat.le_refl _⟩, ⟨by (with_reducible repeat (first | refine blk_drewN ?_ _ | refine blk_drew ?_ | refine blk_alloc ?_ _)); exact BK224.out⟩, ⟨by repeat (first | (with_reducible first | exact HB.out | apply below_alloc | apply pw_below_drewN | apply below_drew1 | refine below_set ?_ GE224.out) | exact HB.out)⟩⟩
            · rw [if_neg c14] at H
              have c14b0 : decide (a3 < 1) = false := decide_eq_false c14
              clear c14
              by_cases c15 : a3 > 1099511627776
              · rw [if_pos c15] at H
                have c15b0 : decide (1099511627776 < a3) = true := decide_eq_true c15
                clear c15
                have H' := Aside0.mk H
                clear H
                go_wp2
                go_meet
                case rel => exact ⟨_, (true), (by first | rfl | (simp; done) | (simp [*]; done)), H', ⟨by first | omega | exact Nat.le_refl _⟩, ⟨by (with_reducible repeat (first | refine blk_drewN ?_ _ | refine blk_drew ?_ | refine blk_alloc ?_ _)); exact BK224.out⟩, ⟨by repeat (first | (with_reducible first | exact HB.out | apply below_alloc | apply pw_below_drewN | apply below_drew1 | refine below_set ?_ GE224.out) | exact HB.out)⟩⟩
              · rw [if_neg c15] at H
                have c15b0 : decide (1099511627776 < a3) = false := decide_eq_false c15
                clear c15
                have H' := Aside0.mk H
                clear H
                have hcz16_0 : w10.cell? ⟨gb224, 0, none⟩ = some (.int .i64 a4_0) := (blk_cell BK224.out 0).trans rfl
                have hcz16_1 : w10.cell? ⟨gb224, 1, none⟩ = some (.int .i64 a4_1) := (blk_cell BK224.out 1).trans rfl
                have hcz16_2 : w10.cell? ⟨gb224, 2, none⟩ = some (.int .i64 a4_2) := (blk_cell BK224.out 2).trans rfl
                have hfz16_0 := blk_frozen BK224.out 0
                have hfz16_1 := blk_frozen BK224.out 1
                have hfz16_2 := blk_frozen BK224.out 2
                go_wp2
                go_meet
                case rel => exact ⟨_, (decide (a4_2 < 0)), (by first | rfl | (simp; done) | (simp [*]; done)), H', ⟨by first | omega | exact Nat.le_refl _⟩, ⟨by (with_reducible repeat (first | refine blk_drewN ?_ _ | refine blk_drew ?_ | refine blk_alloc ?_ _)); exact BK224.out⟩, ⟨by repeat (first | (with_reducible first | exact HB.out | apply below_alloc | apply pw_below_drewN | apply below_drew1 | refine below_set ?_ GE224.out) | exact HB.out)⟩⟩
          · rw [if_neg c13] at H
            have c13b0 : ((l2.length : Int) == (l0.length : Int)) = false := beq_eq_false_iff_ne.mpr c13
            have c13b1 : ((l2.length : Int) != (l0.length : Int)) = true := bne_iff_ne.mpr c13
            have c13b2 : (l2.length == l0.length) = false := by first | simpa using c13 | (simp at c13 ⊢; omega)
            have H' := Aside0.mk H
            clear H
            go_wp2
            go_meet
            case rel => exact ⟨_, (true), (by first | rfl | (simp; done) | (simp [*]; done)), H', ⟨by first | omega | exact Nat.le_refl _⟩, ⟨by (with_reducible repeat (first | refine blk_drewN ?_ _ | refine blk_drew ?_ | refine blk_alloc ?_ _)); exact BK224.out⟩, ⟨by repeat (first | (with_reducible first | exact HB.out | apply below_alloc | apply pw_below_drewN | apply below_drew1 | refine below_set ?_ GE224.out) | exact HB.out)⟩⟩
        · rw [if_neg c12] at H
          have c12b0 : ((l1.length : Int) == (l0.length : Int)) = false := beq_eq_false_iff_ne.mpr c12
          have c12b1 : ((l1.length : Int) != (l0.length : Int)) = true := bne_iff_ne.mpr c12
          have c12b2 : (l1.length == l0.length) = false := by first | simpa using c12 | (simp at c12 ⊢; omega)
          have H' := Aside0.mk H
          clear H
          go_wp2
          go_meet
          case rel => exact ⟨_, (true), (by first | rfl | (simp; done) | (simp [*]; done)), H', ⟨by first | omega | exact Nat.le_refl _⟩, ⟨by (with_reducible repeat (first | refine blk_drewN ?_ _ | refine blk_drew ?_ | refine blk_alloc ?_ _)); exact BK224.out⟩, ⟨by repeat (first | (with_reducible first | exact HB.out | apply below_alloc | apply pw_below_drewN | apply below_drew1 | refine below_set ?_ GE224.out) | exact HB.out)⟩⟩
    case rest =>
      clear HC8
      try clear c1
      try clear c2
      try clear p2
      try clear c7
      try clear c8
      try clear c9
      try clear c11
      try clear c11b0
      try clear c11b1
      try clear c12
      try clear c12b0
      try clear c12b1
      try clear c12b2
      try clear c13
      try clear c13b0
      try clear c13b1
      try clear c13b2
      try clear c14
      try clear c14b0
      try clear c15
      try clear c15b0
      try clear hcz16_0
      try clear hcz16_1
      try clear hcz16_2
      try clear hfz16_0
      try clear hfz16_1
      try clear hfz16_2
      obtain ⟨kq, x50_7, rfl, HA, HJ7, BK224, HB⟩ := hcut
      cases kq with
      | zero => exact absurd HA.out (by simp [carousellaw15_OptMeans.j0])
      | succ kj7 =>
        have H := HA.out
        clear HA
        simp only [carousellaw15_OptMeans.j0] at H
        by_cases c17 : x50_7 = true
        · subst c17
          have H1 : (some true) = some r := by rw [if_pos rfl] at H; exact H
          clear H
          have H := H1
          clear H1
          obtain rfl := Option.some.inj H
          go_wp2
          go_ret
          exact ⟨by first | rfl | (simp [errW_none, errW_some] <;> rfl) | (simp [*, errW_none, errW_some] <;> rfl), by repeat (first | (with_reducible first | exact HB.out | apply below_alloc | apply pw_below_drewN | apply below_drew1 | refine below_set ?_ GE224.out) | exact HB.out)⟩
        · replace c17 := Bool.eq_false_iff.mpr c17
          subst c17
          have H1 : (carousellaw15_OptMeans.l0 kj7 l0 l1 l2 a3 ([] : List (S30)) ([] : List (S30)) 0 a4_0 a4_1 a4_2) = some r := by rw [if_neg (show ¬ (false = true) by decide)] at H; exact H
          clear H
          have H := H1
          clear H1
          have H' := Aside0.mk H
          clear H
          go_wp2
          go_loopg [11, 12, 13] kj7 (fun kq v11 v12 v13 w' => ∃ (x11_2 : List (S30)) (x12_2 : List (S30)) (x13_2 : Int), v13 = .int .i64 x13_2 ∧ Aside0 (carousellaw15_OptMeans.l0 kq l0 l1 l2 a3 x11_2 x12_2 x13_2 a4_0 a4_1 a4_2 = some r) ∧ Aside0 (kq ≤ kj7) ∧ Aside0 (Kd.R k30 30 w' w.heap.size (fun k_ => some k_ ≠ (v12 : Value).ownBlock) v11 x11_2) ∧ Aside0 (Kd.R k30 30 w' w.heap.size (fun k_ => some k_ ≠ (v11 : Value).ownBlock) v12 x12_2) ∧ Aside0 (w'.heap[gb224]? = some (.cells #[.int .i64 a4_0, .int .i64 a4_1, .int .i64 a4_2] 37 (0, 0))) ∧ Aside0 (Below w.heap.size w w'))
          case atStart => exact ⟨(([] : List (S30))), (([] : List (S30))), (0), (by first | rfl | (simp; done) | (simp [*]; done)), H', ⟨Nat.le_refl _⟩, ⟨by first | exact Kd.R_nil _ _ _ _ _ | exact Kd.N_nil _ _ _ _ _ | exact Kd.V_nil _ _ _ _ _ | exact Kd.Q_nil _ _ _ _ _ | exact Kd.S_nil _ _ _ _ _⟩, ⟨by first | exact Kd.R_nil _ _ _ _ _ | exact Kd.N_nil _ _ _ _ _ | exact Kd.V_nil _ _ _ _ _ | exact Kd.Q_nil _ _ _ _ _ | exact Kd.S_nil _ _ _ _ _⟩, ⟨by (with_reducible repeat (first | refine blk_drewN ?_ _ | refine blk_drew ?_ | refine blk_alloc ?_ _)); exact BK224.out⟩, ⟨by repeat (first | (with_reducible first | exact HB.out | apply below_alloc | apply pw_below_drewN | apply below_drew1 | refine below_set ?_ GE224.out) | exact HB.out)⟩⟩
          case round =>
            clear H'
            try clear c1
            try clear c2
            try clear p2
            try clear c7
            try clear c8
            try clear c9
            try clear c11
            try clear c11b0
            try clear c11b1
            try clear c12
            try clear c12b0
            try clear c12b1
            try clear c12b2
            try clear c13
            try clear c13b0
            try clear c13b1
            try clear c13b2
            try clear c14
            try clear c14b0
            try clear c15
            try clear c15b0
            try clear c17
            try clear hcz16_0
            try clear hcz16_1
            try clear hcz16_2
            try clear hfz16_0
            try clear hfz16_1
            try clear hfz16_2
            try clear p2
            obtain ⟨x11_2, x12_2, x13_2, rfl, HA, HK2, HO_11, HO_12, BK224, HB⟩ := hrel
            cases gk with
            | zero => exact absurd HA.out (by simp [carousellaw15_OptMeans.l0])
            | succ k2 =>
              have H := HA.out
              clear HA
              simp only [carousellaw15_OptMeans.l0] at H
              by_cases c18 : x13_2 < (l2.length : Int)
              · rw [if_pos c18] at H
                have c18b0 : decide (x13_2 < (l2.length : Int)) = true := decide_eq_true c18
                clear c18
                by_cases c19 : 0 ≤ x13_2
                · rw [if_pos c19] at H
                  have c19b0 : decide (0 ≤ x13_2) = true := decide_eq_true c19
                  clear c19
                  replace H := Option.bind_eq_some_iff.mp H
                  obtain ⟨⟨t227, t228⟩, A200, H⟩ := H
                  replace H : (if x11_2.length < 8796093022208 then ((wide_Of.f (rd l2 x13_2)).bind fun bt233 => ((wide_Of.f (rd l2 x13_2)).bind fun bt236 => ((wide_Add.f bt233.1 bt233.2 bt236.1 bt236.2).bind fun bt238 => (if x12_2.length < 8796093022208 then (carousellaw15_OptMeans.l0 k2 l0 l1 l2 a3 (x11_2 ++ [(⟨t227, t228⟩ : S30)]) (x12_2 ++ [(⟨bt238.1, bt238.2⟩ : S30)]) (wrap64 (x13_2 + 1)) a4_0 a4_1 a4_2) else (none))))) else (none)) = some r := H
                  have A20 := Aside0.mk A200
                  clear A200
                  by_cases c21 : x11_2.length < 8796093022208
                  · rw [if_pos c21] at H
                    have LMc21 := Aside0.mk c21
                    clear c21
                    obtain ⟨y229, hy229⟩ : ∃ y_ : List (S30), y_ = (x11_2 ++ [(⟨t227, t228⟩ : S30)]) := ⟨_, rfl⟩
                    replace H : ((wide_Of.f (rd l2 x13_2)).bind fun bt233 => ((wide_Of.f (rd l2 x13_2)).bind fun bt236 => ((wide_Add.f bt233.1 bt233.2 bt236.1 bt236.2).bind fun bt238 => (if x12_2.length < 8796093022208 then (carousellaw15_OptMeans.l0 k2 l0 l1 l2 a3 y229 (x12_2 ++ [(⟨bt238.1, bt238.2⟩ : S30)]) (wrap64 (x13_2 + 1)) a4_0 a4_1 a4_2) else (none))))) = some r := by first | (rw [hy229]; with_reducible exact H) | (have H2_ := (Option.bind_some _ _).symm.trans H; rw [hy229]; with_reducible exact H2_) | (have H2_ := (Option.bind_some _ _).symm.trans H; with_reducible exact H2_) | with_reducible exact H | (rw [hy229]; exact H) | exact H
                    have Ny229 := Aside0.mk hy229
                    clear hy229
                    replace H := Option.bind_eq_some_iff.mp H
                    obtain ⟨⟨t233, t234⟩, A220, H⟩ := H
                    replace H : ((wide_Of.f (rd l2 x13_2)).bind fun bt236 => ((wide_Add.f t233 t234 bt236.1 bt236.2).bind fun bt238 => (if x12_2.length < 8796093022208 then (carousellaw15_OptMeans.l0 k2 l0 l1 l2 a3 y229 (x12_2 ++ [(⟨bt238.1, bt238.2⟩ : S30)]) (wrap64 (x13_2 + 1)) a4_0 a4_1 a4_2) else (none)))) = some r := H
                    have A22 := Aside0.mk A220
                    clear A220
                    replace H := Option.bind_eq_some_iff.mp H
                    obtain ⟨⟨t236, t237⟩, A230, H⟩ := H
                    replace H : ((wide_Add.f t233 t234 t236 t237).bind fun bt238 => (if x12_2.length < 8796093022208 then (carousellaw15_OptMeans.l0 k2 l0 l1 l2 a3 y229 (x12_2 ++ [(⟨bt238.1, bt238.2⟩ : S30)]) (wrap64 (x13_2 + 1)) a4_0 a4_1 a4_2) else (none))) = some r := H
                    have A23 := Aside0.mk A230
                    clear A230
                    replace H := Option.bind_eq_some_iff.mp H
                    obtain ⟨⟨t238, t239⟩, A240, H⟩ := H
                    replace H : (if x12_2.length < 8796093022208 then (carousellaw15_OptMeans.l0 k2 l0 l1 l2 a3 y229 (x12_2 ++ [(⟨t238, t239⟩ : S30)]) (wrap64 (x13_2 + 1)) a4_0 a4_1 a4_2) else (none)) = some r := H
                    have A24 := Aside0.mk A240
                    clear A240
                    by_cases c25 : x12_2.length < 8796093022208
                    · rw [if_pos c25] at H
                      have LMc25 := Aside0.mk c25
                      clear c25
                      obtain ⟨y240, hy240⟩ : ∃ y_ : List (S30), y_ = (x12_2 ++ [(⟨t238, t239⟩ : S30)]) := ⟨_, rfl⟩
                      replace H : (carousellaw15_OptMeans.l0 k2 l0 l1 l2 a3 y229 y240 (wrap64 (x13_2 + 1)) a4_0 a4_1 a4_2) = some r := by first | (rw [hy240]; with_reducible exact H) | (have H2_ := (Option.bind_some _ _).symm.trans H; rw [hy240]; with_reducible exact H2_) | (have H2_ := (Option.bind_some _ _).symm.trans H; with_reducible exact H2_) | with_reducible exact H | (rw [hy240]; exact H) | exact H
                      have Ny240 := Aside0.mk hy240
                      clear hy240
                      have H' := Aside0.mk H
                      clear H
                      have p226 : 0 ≤ (x13_2 : Int) := of_decide_eq_true (by first | (with_reducible assumption) | assumption)
                      have q226 : x13_2 < (l2.length : Int) := of_decide_eq_true (by first | (with_reducible assumption) | assumption)
                      obtain ⟨ad226, e226, hx226_0⟩ := Kd.at_int HR2.out x13_2 p226 q226
                      cases e226
                      replace hx226_0 := (HB.out.cell (World.block_lt_of_cell? w _ hx226_0)).trans hx226_0
                      replace p226 := eq_true p226
                      replace q226 := eq_true q226
                      try go_wp2_with (first | ((with_reducible refine gate_callee (f := 11) rfl ?_); refine goesL_ (some 62) rfl rfl Try.func11 (by kernel_rfl) rfl #[.int .i64 (rd l2 x13_2)] rfl (by (try simp only [List.map_toArray, List.map_cons, List.map_nil]); first | done | rfl | (simp only [List.length_drop, List.length_take]; rfl)) ?_; (with_reducible refine (wide_Of.calls (rd l2 x13_2) t227 t228 _ A20.out).mono ?_); rintro e w26 ⟨rfl, hb⟩; refine ⟨_, rfl, ?_⟩; have n0_ := Aside0.mk (Kd.R_below (by (with_reducible repeat (first | apply Kd.R_alloc | apply Kd.R_drewN | apply Kd.R_drew)); exact HO_11.out) hb); have n1_ := Aside0.mk (Kd.R_below (by (with_reducible repeat (first | apply Kd.R_alloc | apply Kd.R_drewN | apply Kd.R_drew)); exact HO_12.out) hb); have n2_ := Aside0.mk (blk_below (g := gb224) (o := .cells #[.int .i64 a4_0, .int .i64 a4_1, .int .i64 a4_2] 37 (0, 0)) (by (with_reducible repeat (first | refine blk_drewN ?_ _ | refine blk_drew ?_ | refine blk_alloc ?_ _)); exact BK224.out) hb); have n3_ := Aside0.mk (below_step (by repeat (first | (with_reducible first | exact HB.out | apply below_alloc | apply pw_below_drewN | apply below_drew1 | refine below_set ?_ GE224.out) | exact HB.out)) hb); clear HO_11; clear HO_12; clear BK224; clear HB; have HO_11 := n0_; have HO_12 := n1_; have BK224 := n2_; have HB := n3_; clear n0_ n1_ n2_ n3_; (try clear hb); (try clear hb2); (try clear hk); (try clear hi)) | ((with_reducible refine gate_builtin (b := .append) (xs := #[.tmp 57, .tmp 63]) rfl ?_); (try (refine gate_guard (by rfl) ?_; dsimp only)); at_builtin; refine Kd.R_append k30 (w0 := w) w.heap.size rfl (.tmp 57) (.tmp 63) 32 30 (.agg #[(.int .i64 0), (.int .u64 0)]) 16 rfl Try.underlying32 info30 rfl (by decide) (by omega) u11 x11_2 (⟨t227, t228⟩ : S30) [.int .i64 t227, .int .u64 t228] (fun k_ => some k_ ≠ (u12 : Value).ownBlock) (fun _ => False) rfl rfl ?aP (fun _ hk => hk.elim) ?aF ?aO ?aB ?aS ?aL ?_; (case aP => exact k30_mkM _ _ _ (⟨t227, t228⟩ : S30)); (case aB => exact (by repeat (first | (with_reducible first | exact HB.out | apply below_alloc | apply pw_below_drewN | apply below_drew1 | refine below_set ?_ GE224.out) | exact HB.out))); (case aF => exact (fun k_ hk => Kd.fresh' (Kd.R_lt (by (with_reducible repeat (first | apply Kd.R_alloc | apply Kd.R_drewN | apply Kd.R_drew)); exact HO_12.out)) k_ hk)); (case aO => exact (by (with_reducible repeat (first | apply Kd.R_alloc | apply Kd.R_drewN | apply Kd.R_drew)); exact HO_11.out)); (case aS => exact (below_size (by repeat (first | (with_reducible first | exact HB.out | apply below_alloc | apply pw_below_drewN | apply below_drew1 | refine below_set ?_ GE224.out) | exact HB.out)))); (case aL => have := LMc21.out; omega); intro v230 w27 ho hb hg hat; rw [← Ny229.out] at ho; have n0_ := Aside0.mk (Kd.R_after (ok := (fun _ => True)) (by (with_reducible repeat (first | apply Kd.R_alloc | apply Kd.R_drewN | apply Kd.R_drew)); exact Kd.R_mono HO_12.out (fun _ hk => ⟨trivial, hk⟩)) hg hat); have n1_ := Aside0.mk (blk_grown (g := gb224) (o := .cells #[.int .i64 a4_0, .int .i64 a4_1, .int .i64 a4_2] 37 (0, 0)) (by (with_reducible repeat (first | refine blk_drewN ?_ _ | refine blk_drew ?_ | refine blk_alloc ?_ _)); exact BK224.out) hg (Kd.R_ne HO_11.out BK224.out (by decide))); have n2_ := Aside0.mk (hb); have n3_ := Aside0.mk (ho); clear HO_12; clear BK224; clear HB; clear HO_11; have HO_12 := n0_; have BK224 := n1_; have HB := n2_; have HO231 := n3_; clear n0_ n1_ n2_ n3_; clear ho hb hg hat))
                      have n0_ := Aside0.mk (Kd.R_drew HO_12.out)
                      have n1_ := Aside0.mk (Kd.R_drew HO231.out)
                      have n2_ := Aside0.mk (blk_drew BK224.out)
                      have n3_ := Aside0.mk (below_drew1 HB.out)
                      clear HO_12
                      clear HO231
                      clear BK224
                      clear HB
                      have HO_12 := n0_
                      have HO231 := n1_
                      have BK224 := n2_
                      have HB := n3_
                      clear n0_ n1_ n2_ n3_
                      have p232 : 0 ≤ (x13_2 : Int) := of_decide_eq_true (by first | (with_reducible assumption) | assumption)
                      have q232 : x13_2 < (l2.length : Int) := of_decide_eq_true (by first | (with_reducible assumption) | assumption)
                      obtain ⟨ad232, e232, hx232_0⟩ := Kd.at_int HR2.out x13_2 p232 q232
                      have hw232_0 := hx232_0
                      obtain rfl : ad226 = ad232 := (by injection e232)
                      replace hx232_0 := (HB.out.cell (World.block_lt_of_cell? w _ hx232_0)).trans hx232_0
                      replace p232 := eq_true p232
                      replace q232 := eq_true q232
                      have p235 : 0 ≤ (x13_2 : Int) := of_decide_eq_true (by first | (with_reducible assumption) | assumption)
                      have q235 : x13_2 < (l2.length : Int) := of_decide_eq_true (by first | (with_reducible assumption) | assumption)
                      obtain ⟨ad235, e235, hx235_0⟩ := Kd.at_int HR2.out x13_2 p235 q235
                      have hw235_0 := hx235_0
                      obtain rfl : ad226 = ad235 := (by injection e235)
                      replace hx235_0 := (HB.out.cell (World.block_lt_of_cell? w _ hx235_0)).trans hx235_0
                      replace p235 := eq_true p235
                      replace q235 := eq_true q235
                      refine start_ (n := 15) (S := fun w' => w'.cell? (ad226.add (x13_2).toNat) = some (.int .i64 (rd l2 x13_2)) ∧ w'.cell? (ad226.add (x13_2).toNat) = some (.int .i64 (rd l2 x13_2))) (ds := []) #[false, false, false, false, false, false, false, false, false, false, false, false, false, false, false] (by kernel_rfl) rfl rfl ⟨((HB.out.cell (World.block_lt_of_cell? w _ hw232_0)).trans hw232_0), ((HB.out.cell (World.block_lt_of_cell? w _ hw235_0)).trans hw235_0)⟩ (fun hHeld => ?_); refine with_tabW carousellaw15_OptMeans.tab10 carousellaw15_OptMeans.bits10 (fun HT_ HW_ => ?_)
                      generalize w27.drew = w28 at HO_12 HO231 BK224 HB hx232_0 hx235_0 hHeld ⊢
                      refine pure_ (i := 0) (N := some 65) (v := ?_) (a' := ?_) #[true, false, false, false, false, false, false, false, false, false, false, false, false, false, false] rfl rfl (any_of HT_.out (by kernel_rfl)) (fun _ _ _ h => h) (Or.inl ⟨by rfl, ?_⟩) ?_ ?_
                      rotate_left
                      · intro w'
                        go_simp
                        with_reducible rfl
                      rotate_left
                      · simp only [Act.put, List.setIfInBounds_toArray, List.set_cons_zero, List.set_cons_succ, i64_w, i32_w]
                        rfl
                      refine pure_ (i := 1) (N := some 66) (v := ?_) (a' := ?_) #[true, true, false, false, false, false, false, false, false, false, false, false, false, false, false] rfl rfl (any_of HT_.out (by kernel_rfl)) (fun _ _ _ h => h) (Or.inl ⟨by rfl, ?_⟩) ?_ ?_
                      rotate_left
                      · intro w'
                        go_simp
                        with_reducible rfl
                      rotate_left
                      · simp only [Act.put, List.setIfInBounds_toArray, List.set_cons_zero, List.set_cons_succ, i64_w, i32_w]
                        rfl
                      refine pure_ (i := 2) (N := some 67) (v := ?_) (a' := ?_) #[true, true, true, false, false, false, false, false, false, false, false, false, false, false, false] rfl rfl (any_of HT_.out (by kernel_rfl)) (fun _ _ _ h => h) (Or.inl ⟨by rfl, ?_⟩) ?_ ?_
                      rotate_left
                      · intro w'
                        go_simp
                        with_reducible rfl
                      rotate_left
                      · simp only [Act.put, List.setIfInBounds_toArray, List.set_cons_zero, List.set_cons_succ, i64_w, i32_w]
                        rfl
                      refine pure_ (i := 3) (N := some 68) (v := ?_) (a' := ?_) #[true, true, true, true, false, false, false, false, false, false, false, false, false, false, false] rfl rfl (any_of HT_.out (by kernel_rfl)) (fun _ _ _ h => h) (Or.inl ⟨by rfl, ?_⟩) ?_ ?_
                      rotate_left
                      · intro w'
                        go_simp
                        with_reducible rfl
                      rotate_left
                      · simp only [Act.put, List.setIfInBounds_toArray, List.set_cons_zero, List.set_cons_succ, i64_w, i32_w]
                        rfl
                      refine pure_ (i := 6) (N := some 71) (v := ?_) (a' := ?_) #[true, true, true, true, false, false, true, false, false, false, false, false, false, false, false] rfl rfl (any_of HT_.out (by kernel_rfl)) (fun _ _ _ h => h) (Or.inl ⟨by rfl, ?_⟩) ?_ ?_
                      rotate_left
                      · intro w'
                        go_simp
                        with_reducible rfl
                      rotate_left
                      · simp only [Act.put, List.setIfInBounds_toArray, List.set_cons_zero, List.set_cons_succ, i64_w, i32_w]
                        rfl
                      refine pure_ (i := 7) (N := some 72) (v := ?_) (a' := ?_) #[true, true, true, true, false, false, true, true, false, false, false, false, false, false, false] rfl rfl (any_of HT_.out (by kernel_rfl)) (fun _ _ _ h => h) (Or.inl ⟨by rfl, ?_⟩) ?_ ?_
                      rotate_left
                      · intro w'
                        go_simp
                        with_reducible rfl
                      rotate_left
                      · simp only [Act.put, List.setIfInBounds_toArray, List.set_cons_zero, List.set_cons_succ, i64_w, i32_w]
                        rfl
                      refine pure_ (i := 8) (N := some 73) (v := ?_) (a' := ?_) #[true, true, true, true, false, false, true, true, true, false, false, false, false, false, false] rfl rfl (any_of HT_.out (by kernel_rfl)) (fun _ _ _ h => h) (Or.inl ⟨by rfl, ?_⟩) ?_ ?_
                      rotate_left
                      · intro w'
                        go_simp
                        with_reducible rfl
                      rotate_left
                      · simp only [Act.put, List.setIfInBounds_toArray, List.set_cons_zero, List.set_cons_succ, i64_w, i32_w]
                        rfl
                      refine take_ (i := 4) (N := some 69) (v := ?_) (a' := ?_) #[true, true, true, true, true, false, true, true, true, false, false, false, false, false, false] rfl rfl (take_ofW HT_.out HW_.out (by kernel_rfl)) (fun _ _ _ h => h) (Or.inl ⟨by rfl, ?_⟩) hHeld ?_ ?_
                      rotate_left
                      · rintro w' ⟨s0, s1⟩
                        go_simp
                        with_reducible rfl
                      rotate_left
                      · simp only [Act.put, List.setIfInBounds_toArray, List.set_cons_zero, List.set_cons_succ, i64_w, i32_w]
                        rfl
                      refine take_ (i := 9) (N := some 74) (v := ?_) (a' := ?_) #[true, true, true, true, true, false, true, true, true, true, false, false, false, false, false] rfl rfl (take_ofW HT_.out HW_.out (by kernel_rfl)) (fun _ _ _ h => h) (Or.inl ⟨by rfl, ?_⟩) hHeld ?_ ?_
                      rotate_left
                      · rintro w' ⟨s0, s1⟩
                        go_simp
                        with_reducible rfl
                      rotate_left
                      · simp only [Act.put, List.setIfInBounds_toArray, List.set_cons_zero, List.set_cons_succ, i64_w, i32_w]
                        rfl
                      refine one_ (i := 5) (N := some 70) #[true, true, true, true, true, true, true, true, true, true, false, false, false, false, false] rfl rfl (one_of HT_.out (by kernel_rfl)) (by decide) (fun K hK => ?_)
                      refine goes_ Try.func11 (by kernel_rfl) rfl #[.int .i64 (rd l2 x13_2)] (by rfl) rfl rfl (by (try simp only [List.map_toArray, List.map_cons, List.map_nil]); first | done | rfl | (simp only [List.length_drop, List.length_take]; rfl)) ?_
                      with_reducible refine (wide_Of.calls (rd l2 x13_2) t233 t234 _ A22.out).mono ?_
                      rintro e w29 ⟨rfl, hb⟩
                      refine ⟨_, rfl, ?_⟩
                      have n0_ := Aside0.mk (Kd.R_below (by (with_reducible repeat (first | apply Kd.R_alloc | apply Kd.R_drewN | apply Kd.R_drew)); exact HO_12.out) hb)
                      have n1_ := Aside0.mk (Kd.R_below (by (with_reducible repeat (first | apply Kd.R_alloc | apply Kd.R_drewN | apply Kd.R_drew)); exact HO231.out) hb)
                      have n2_ := Aside0.mk (blk_below (g := gb224) (o := .cells #[.int .i64 a4_0, .int .i64 a4_1, .int .i64 a4_2] 37 (0, 0)) (by (with_reducible repeat (first | refine blk_drewN ?_ _ | refine blk_drew ?_ | refine blk_alloc ?_ _)); exact BK224.out) hb)
                      have n3_ := Aside0.mk (below_step (by repeat (first | (with_reducible first | exact HB.out | apply below_alloc | apply pw_below_drewN | apply below_drew1 | refine below_set ?_ GE224.out) | exact HB.out)) hb)
                      clear HO_12
                      clear HO231
                      clear BK224
                      clear HB
                      have HO_12 := n0_
                      have HO231 := n1_
                      have BK224 := n2_
                      have HB := n3_
                      clear n0_ n1_ n2_ n3_
                      (try clear hb)
                      (try clear hb2)
                      (try clear hk)
                      (try clear hi)
                      refine hK.out _ _ ⟨((HB.out.cell (World.block_lt_of_cell? w _ hw232_0)).trans hw232_0), ((HB.out.cell (World.block_lt_of_cell? w _ hw235_0)).trans hw235_0)⟩ (fun hHeld => ?_)
                      clear hK K
                      refine norm_ (a' := ?_) ?_ ?_
                      rotate_left
                      · show Act.put _ (some 70) _ = _
                        simp only [Act.put, List.setIfInBounds_toArray, List.set_cons_zero, List.set_cons_succ, i64_w, i32_w]
                        rfl
                      refine one_ (i := 10) (N := some 75) #[true, true, true, true, true, true, true, true, true, true, true, false, false, false, false] rfl rfl (one_of HT_.out (by kernel_rfl)) (by decide) (fun K hK => ?_)
                      refine goes_ Try.func11 (by kernel_rfl) rfl #[.int .i64 (rd l2 x13_2)] (by rfl) rfl rfl (by (try simp only [List.map_toArray, List.map_cons, List.map_nil]); first | done | rfl | (simp only [List.length_drop, List.length_take]; rfl)) ?_
                      with_reducible refine (wide_Of.calls (rd l2 x13_2) t236 t237 _ A23.out).mono ?_
                      rintro e w30 ⟨rfl, hb⟩
                      refine ⟨_, rfl, ?_⟩
                      have n0_ := Aside0.mk (Kd.R_below (by (with_reducible repeat (first | apply Kd.R_alloc | apply Kd.R_drewN | apply Kd.R_drew)); exact HO_12.out) hb)
                      have n1_ := Aside0.mk (Kd.R_below (by (with_reducible repeat (first | apply Kd.R_alloc | apply Kd.R_drewN | apply Kd.R_drew)); exact HO231.out) hb)
                      have n2_ := Aside0.mk (blk_below (g := gb224) (o := .cells #[.int .i64 a4_0, .int .i64 a4_1, .int .i64 a4_2] 37 (0, 0)) (by (with_reducible repeat (first | refine blk_drewN ?_ _ | refine blk_drew ?_ | refine blk_alloc ?_ _)); exact BK224.out) hb)
                      have n3_ := Aside0.mk (below_step (by repeat (first | (with_reducible first | exact HB.out | apply below_alloc | apply pw_below_drewN | apply below_drew1 | refine below_set ?_ GE224.out) | exact HB.out)) hb)
                      clear HO_12
                      clear HO231
                      clear BK224
                      clear HB
                      have HO_12 := n0_
                      have HO231 := n1_
                      have BK224 := n2_
                      have HB := n3_
                      clear n0_ n1_ n2_ n3_
                      (try clear hb)
                      (try clear hb2)
                      (try clear hk)
                      (try clear hi)
                      refine hK.out _ _ ⟨((HB.out.cell (World.block_lt_of_cell? w _ hw232_0)).trans hw232_0), ((HB.out.cell (World.block_lt_of_cell? w _ hw235_0)).trans hw235_0)⟩ (fun hHeld => ?_)
                      clear hK K
                      refine norm_ (a' := ?_) ?_ ?_
                      rotate_left
                      · show Act.put _ (some 75) _ = _
                        simp only [Act.put, List.setIfInBounds_toArray, List.set_cons_zero, List.set_cons_succ, i64_w, i32_w]
                        rfl
                      refine one_ (i := 11) (N := some 76) #[true, true, true, true, true, true, true, true, true, true, true, true, false, false, false] rfl rfl (one_of HT_.out (by kernel_rfl)) (by decide) (fun K hK => ?_)
                      refine goes_ Try.func19 (by kernel_rfl) rfl #[.agg #[.int .i64 t233, .int .u64 t234], .agg #[.int .i64 t236, .int .u64 t237]] (by rfl) rfl rfl (by (try simp only [List.map_toArray, List.map_cons, List.map_nil]); first | done | rfl | (simp only [List.length_drop, List.length_take]; rfl)) ?_
                      with_reducible refine (wide_Add.calls t233 t234 t236 t237 t238 t239 _ A24.out).mono ?_
                      rintro e w31 ⟨rfl, hb⟩
                      refine ⟨_, rfl, ?_⟩
                      have n0_ := Aside0.mk (Kd.R_below (by (with_reducible repeat (first | apply Kd.R_alloc | apply Kd.R_drewN | apply Kd.R_drew)); exact HO_12.out) hb)
                      have n1_ := Aside0.mk (Kd.R_below (by (with_reducible repeat (first | apply Kd.R_alloc | apply Kd.R_drewN | apply Kd.R_drew)); exact HO231.out) hb)
                      have n2_ := Aside0.mk (blk_below (g := gb224) (o := .cells #[.int .i64 a4_0, .int .i64 a4_1, .int .i64 a4_2] 37 (0, 0)) (by (with_reducible repeat (first | refine blk_drewN ?_ _ | refine blk_drew ?_ | refine blk_alloc ?_ _)); exact BK224.out) hb)
                      have n3_ := Aside0.mk (below_step (by repeat (first | (with_reducible first | exact HB.out | apply below_alloc | apply pw_below_drewN | apply below_drew1 | refine below_set ?_ GE224.out) | exact HB.out)) hb)
                      clear HO_12
                      clear HO231
                      clear BK224
                      clear HB
                      have HO_12 := n0_
                      have HO231 := n1_
                      have BK224 := n2_
                      have HB := n3_
                      clear n0_ n1_ n2_ n3_
                      (try clear hb)
                      (try clear hb2)
                      (try clear hk)
                      (try clear hi)
                      refine hK.out _ _ ⟨((HB.out.cell (World.block_lt_of_cell? w _ hw232_0)).trans hw232_0), ((HB.out.cell (World.block_lt_of_cell? w _ hw235_0)).trans hw235_0)⟩ (fun hHeld => ?_)
                      clear hK K
                      refine norm_ (a' := ?_) ?_ ?_
                      rotate_left
                      · show Act.put _ (some 76) _ = _
                        simp only [Act.put, List.setIfInBounds_toArray, List.set_cons_zero, List.set_cons_succ, i64_w, i32_w]
                        rfl
                      refine one_ (i := 12) (N := some 77) #[true, true, true, true, true, true, true, true, true, true, true, true, true, false, false] rfl rfl (one_of HT_.out (by kernel_rfl)) (by decide) (fun K hK => ?_)
                      refine value_ (w1 := ?_) (v := ?_) (by rfl) rfl ?_ ?_
                      rotate_left 2
                      · go_simp
                        constructor
                        · rfl
                        · rfl
                      refine hK.out _ _ ⟨(World.cell?_alloc_lt _ _ _ (World.block_lt_of_cell? _ _ (((HB.out.cell (World.block_lt_of_cell? w _ hw232_0)).trans hw232_0)))).trans (((HB.out.cell (World.block_lt_of_cell? w _ hw232_0)).trans hw232_0)), (World.cell?_alloc_lt _ _ _ (World.block_lt_of_cell? _ _ (((HB.out.cell (World.block_lt_of_cell? w _ hw235_0)).trans hw235_0)))).trans (((HB.out.cell (World.block_lt_of_cell? w _ hw235_0)).trans hw235_0))⟩ (fun hHeld => ?_)
                      clear hK K
                      refine norm_ (a' := ?_) ?_ ?_
                      rotate_left
                      · show Act.put _ (some 77) _ = _
                        simp only [Act.put, List.setIfInBounds_toArray, List.set_cons_zero, List.set_cons_succ, i64_w, i32_w]
                        rfl
                      refine one_ (i := 13) (N := some 78) #[true, true, true, true, true, true, true, true, true, true, true, true, true, true, false] rfl rfl (one_of HT_.out (by kernel_rfl)) (by decide) (fun K hK => ?_)
                      refine Kd.R_append_step k30 (w0 := w) w.heap.size (by rfl) (.tmp 65) (.tmp 77) 32 30 (.agg #[(.int .i64 0), (.int .u64 0)]) 16 rfl Try.underlying32 info30 rfl (by decide) (by omega) u12 x12_2 (⟨t238, t239⟩ : S30) [.int .i64 t238, .int .u64 t239] (fun k_ => some k_ ≠ (v230 : Value).ownBlock) (fun _ => False) rfl rfl ?aP (fun _ hk => hk.elim) ?aF ?aO ?aB ?aS ?aL ?_
                      (case aP => exact k30_mkM _ _ _ (⟨t238, t239⟩ : S30))
                      (case aB => exact (by repeat (first | (with_reducible first | exact HB.out | apply below_alloc | apply pw_below_drewN | apply below_drew1 | refine below_set ?_ GE224.out) | exact HB.out)))
                      (case aF => exact (fun k_ hk => Kd.fresh' (Kd.R_lt (by (with_reducible repeat (first | apply Kd.R_alloc | apply Kd.R_drewN | apply Kd.R_drew)); exact HO231.out)) k_ hk))
                      (case aO => exact (by (with_reducible repeat (first | apply Kd.R_alloc | apply Kd.R_drewN | apply Kd.R_drew)); exact Kd.R_mono HO_12.out (fun _ hk => hk.2)))
                      (case aS => exact (below_size (by repeat (first | (with_reducible first | exact HB.out | apply below_alloc | apply pw_below_drewN | apply below_drew1 | refine below_set ?_ GE224.out) | exact HB.out))))
                      (case aL => have := LMc25.out; omega)
                      intro v241 w32 ho hb hg hat
                      rw [← Ny240.out] at ho
                      have n0_ := Aside0.mk (blk_grown (g := gb224) (o := .cells #[.int .i64 a4_0, .int .i64 a4_1, .int .i64 a4_2] 37 (0, 0)) (by (with_reducible repeat (first | refine blk_drewN ?_ _ | refine blk_drew ?_ | refine blk_alloc ?_ _)); exact BK224.out) hg (Kd.R_ne HO_12.out BK224.out (by decide)))
                      have n1_ := Aside0.mk (Kd.R_after (ok := (fun _ => True)) (by (with_reducible repeat (first | apply Kd.R_alloc | apply Kd.R_drewN | apply Kd.R_drew)); exact Kd.R_mono HO231.out (fun _ hk => ⟨trivial, hk⟩)) hg hat)
                      have n2_ := Aside0.mk (hb)
                      have n3_ := Aside0.mk (ho)
                      clear BK224
                      clear HO231
                      clear HB
                      clear HO_12
                      have BK224 := n0_
                      have HO231 := n1_
                      have HB := n2_
                      have HO242 := n3_
                      clear n0_ n1_ n2_ n3_
                      clear ho hb hg hat
                      refine hK.out _ _ ⟨((HB.out.cell (World.block_lt_of_cell? w _ hw232_0)).trans hw232_0), ((HB.out.cell (World.block_lt_of_cell? w _ hw235_0)).trans hw235_0)⟩ (fun hHeld => ?_)
                      clear hK K
                      refine norm_ (a' := ?_) ?_ ?_
                      rotate_left
                      · show Act.put _ (some 78) _ = _
                        simp only [Act.put, List.setIfInBounds_toArray, List.set_cons_zero, List.set_cons_succ, i64_w, i32_w]
                        rfl
                      refine pure_ (i := 14) (N := some 12) (v := ?_) (a' := ?_) #[true, true, true, true, true, true, true, true, true, true, true, true, true, true, true] rfl rfl (any_of HT_.out (by kernel_rfl)) (fun _ _ _ h => h) (Or.inl ⟨by rfl, ?_⟩) ?_ ?_
                      rotate_left
                      · intro w'
                        go_simp
                        with_reducible rfl
                      rotate_left
                      · simp only [Act.put, List.setIfInBounds_toArray, List.set_cons_zero, List.set_cons_succ, i64_w, i32_w]
                        rfl
                      refine done_ (done_of HT_.out (by kernel_rfl)) ?_
                      try go_wp2
                      go_roundg k2
                      case measure => have := HJ7.out; have := HK2.out; omega
                      case rel => exact ⟨(y229), (y240), (wrap64 (x13_2 + 1)), (by first | rfl | (simp; done) | (simp [*]; done)), H', ⟨by have := HJ7.out; have := HK2.out; omega⟩, ⟨by (with_reducible repeat (first | apply Kd.R_alloc | apply Kd.R_drewN | apply Kd.R_drew)); exact Kd.R_mono HO231.out (fun _ hk => hk.2)⟩, ⟨by (with_reducible repeat (first | apply Kd.R_alloc | apply Kd.R_drewN | apply Kd.R_drew)); exact HO242.out⟩, ⟨by (with_reducible repeat (first | refine blk_drewN ?_ _ | refine blk_drew ?_ | refine blk_alloc ?_ _)); exact BK224.out⟩, ⟨by repeat (first | (with_reducible first | exact HB.out | apply below_alloc | apply pw_below_drewN | apply below_drew1 | refine below_set ?_ GE224.out) | exact HB.out)⟩⟩
                    · rw [if_neg c25] at H
                      exact absurd H (by simp)
                  · rw [if_neg c21] at H
                    exact absurd H (by simp)
                · rw [if_neg c19] at H
                  exact absurd H (by simp)
              · rw [if_neg c18] at H
                have c18b0 : decide (x13_2 < (l2.length : Int)) = false := decide_eq_false c18
                clear c18
                replace H := Option.bind_eq_some_iff.mp H
                obtain ⟨⟨t243, t246, t249⟩, A330, H⟩ := H
                replace H : ((opt_Apply.f k2 l0 l1 x12_2 (wrap64 (2 * a3)) a4_0 a4_1 a4_2).bind fun bt251 => (if t249 = 0 then (if bt251.2.2 = 0 then (if (t243.length : Int) = (l0.length : Int) then (carousellaw15_OptMeans.j2 k2 l0 ((bt251.1.length : Int) != (l0.length : Int)) t243 t246 bt251.1 bt251.2.1) else (carousellaw15_OptMeans.j2 k2 l0 true t243 t246 bt251.1 bt251.2.1)) else (carousellaw15_OptMeans.j2 k2 l0 true t243 t246 bt251.1 bt251.2.1)) else (carousellaw15_OptMeans.j2 k2 l0 true t243 t246 bt251.1 bt251.2.1))) = some r := H
                have A33 := Aside0.mk A330
                clear A330
                replace H := Option.bind_eq_some_iff.mp H
                obtain ⟨⟨t251, t254, t257⟩, A340, H⟩ := H
                replace H : (if t249 = 0 then (if t257 = 0 then (if (t243.length : Int) = (l0.length : Int) then (carousellaw15_OptMeans.j2 k2 l0 ((t251.length : Int) != (l0.length : Int)) t243 t246 t251 t254) else (carousellaw15_OptMeans.j2 k2 l0 true t243 t246 t251 t254)) else (carousellaw15_OptMeans.j2 k2 l0 true t243 t246 t251 t254)) else (carousellaw15_OptMeans.j2 k2 l0 true t243 t246 t251 t254)) = some r := H
                have A34 := Aside0.mk A340
                clear A340
                have HC35 := Aside0.mk H
                clear H
                have hcz36_0 : wr.cell? ⟨gb224, 0, none⟩ = some (.int .i64 a4_0) := (blk_cell BK224.out 0).trans rfl
                have hcz36_1 : wr.cell? ⟨gb224, 1, none⟩ = some (.int .i64 a4_1) := (blk_cell BK224.out 1).trans rfl
                have hcz36_2 : wr.cell? ⟨gb224, 2, none⟩ = some (.int .i64 a4_2) := (blk_cell BK224.out 2).trans rfl
                have hfz36_0 := blk_frozen BK224.out 0
                have hfz36_1 := blk_frozen BK224.out 1
                have hfz36_2 := blk_frozen BK224.out 2
                obtain ⟨Ao37, co37, eo37⟩ := Kd.R_slice HO_11.out
                subst eo37
                go_upto_region 13 with (first | ((with_reducible refine gate_callee (f := 12) rfl ?_); refine goesL_ (some 86) rfl rfl Try.func12 (by kernel_rfl) rfl #[.agg #[.slice A0 l0.length c0, .slice A1 l1.length c1], .slice Ao37 x11_2.length co37, .int .i64 a3, .agg #[.int .i64 a4_0, .int .i64 a4_1, .int .i64 a4_2]] rfl (by (try simp only [List.map_toArray, List.map_cons, List.map_nil]); first | done | rfl | (simp only [List.length_drop, List.length_take]; rfl)) ?_; (with_reducible refine (opt_Apply.calls k2 _ _ l0 _ _ l1 _ _ x11_2 a3 a4_0 a4_1 a4_2 t243 t246 t249 _ ?side1 ?side2 ?side3 ?side4 ?side5 ?side6 A33.out).mono ?_); (case side1 => repeat (first | exact (Kd.C_below HR0.out HB.out) | (with_reducible refine Kd.C_alloc ?_ _) | (with_reducible refine Kd.C_drewN ?_ _) | (with_reducible refine Kd.C_drew ?_))); (case side2 => exact HC0.out); (case side3 => repeat (first | exact (Kd.C_below HR1.out HB.out) | (with_reducible refine Kd.C_alloc ?_ _) | (with_reducible refine Kd.C_drewN ?_ _) | (with_reducible refine Kd.C_drew ?_))); (case side4 => exact HC1.out); (case side5 => repeat (first | exact (Kd.R_reads' HO_11.out).2.2 | (with_reducible refine Kd.C_alloc ?_ _) | (with_reducible refine Kd.C_drewN ?_ _) | (with_reducible refine Kd.C_drew ?_))); (case side6 => exact (Kd.R_reads' HO_11.out).2.1); rintro e w38 ⟨v244, v247, rfl, ho0, ho1, hb⟩; refine ⟨_, rfl, ?_⟩; have n0_ := Aside0.mk (Kd.R_below (by (with_reducible repeat (first | apply Kd.R_alloc | apply Kd.R_drewN | apply Kd.R_drew)); exact HO_11.out) hb); have n1_ := Aside0.mk (Kd.R_below (by (with_reducible repeat (first | apply Kd.R_alloc | apply Kd.R_drewN | apply Kd.R_drew)); exact HO_12.out) hb); have n2_ := Aside0.mk (Kd.R_lower ho0 (below_size (by repeat (first | (with_reducible first | exact HB.out | apply below_alloc | apply pw_below_drewN | apply below_drew1 | refine below_set ?_ GE224.out) | exact HB.out)))); have n3_ := Aside0.mk (Kd.R_lower ho1 (below_size (by repeat (first | (with_reducible first | exact HB.out | apply below_alloc | apply pw_below_drewN | apply below_drew1 | refine below_set ?_ GE224.out) | exact HB.out)))); have n4_ := Aside0.mk (blk_below (g := gb224) (o := .cells #[.int .i64 a4_0, .int .i64 a4_1, .int .i64 a4_2] 37 (0, 0)) (by (with_reducible repeat (first | refine blk_drewN ?_ _ | refine blk_drew ?_ | refine blk_alloc ?_ _)); exact BK224.out) hb); have n5_ := Aside0.mk (below_step (by repeat (first | (with_reducible first | exact HB.out | apply below_alloc | apply pw_below_drewN | apply below_drew1 | refine below_set ?_ GE224.out) | exact HB.out)) hb); clear HO_11; clear HO_12; clear BK224; clear HB; have HO_11 := n0_; have HO_12 := n1_; have HO245 := n2_; have HO248 := n3_; have BK224 := n4_; have HB := n5_; clear n0_ n1_ n2_ n3_ n4_ n5_; (try clear hb); (try clear hb2); (try clear hk); (try clear hi); (try clear ho0); (try clear ho1)) | ((with_reducible refine gate_dst (N := 14) rfl ?_); (try (refine gate_guard (by rfl) ?_; dsimp only)); refine box_event ?hg (N := 14) ?hd (cs := #[.slice none 0 0, .slice none 0 0]) (t := 25) ?hr ?_; (case hd => rfl); (case hg => rfl); (case hr => first | (go_simp; done) | (go_simp; rfl)); intro gb250 hg w39 hbox hb; have n0_ := Aside0.mk (Kd.R_below (by (with_reducible repeat (first | apply Kd.R_alloc | apply Kd.R_drewN | apply Kd.R_drew)); exact HO_11.out) hb); have n1_ := Aside0.mk (Kd.R_below (by (with_reducible repeat (first | apply Kd.R_alloc | apply Kd.R_drewN | apply Kd.R_drew)); exact HO_12.out) hb); have n2_ := Aside0.mk (Kd.R_below (by (with_reducible repeat (first | apply Kd.R_alloc | apply Kd.R_drewN | apply Kd.R_drew)); exact HO245.out) hb); have n3_ := Aside0.mk (Kd.R_below (by (with_reducible repeat (first | apply Kd.R_alloc | apply Kd.R_drewN | apply Kd.R_drew)); exact HO248.out) hb); have n4_ := Aside0.mk (blk_below (g := gb224) (o := .cells #[.int .i64 a4_0, .int .i64 a4_1, .int .i64 a4_2] 37 (0, 0)) (by (with_reducible repeat (first | refine blk_drewN ?_ _ | refine blk_drew ?_ | refine blk_alloc ?_ _)); exact BK224.out) hb); have n5_ := Aside0.mk (below_step (by repeat (first | (with_reducible first | exact HB.out | apply below_alloc | apply pw_below_drewN | apply below_drew1 | refine below_set ?_ GE224.out) | exact HB.out)) hb); have n6_ := Aside0.mk (hbox); have n7_ := Aside0.mk ((by rw [hg]; exact (below_size (by repeat (first | (with_reducible first | exact HB.out | apply below_alloc | apply pw_below_drewN | apply below_drew1 | refine below_set ?_ GE224.out) | exact HB.out))) : w.heap.size ≤ gb250)); have n8_ := Aside0.mk ((by rw [hg]; exact (below_size (by repeat (first | (with_reducible first | exact HB.out | apply below_alloc | apply pw_below_drewN | apply below_drew1 | refine below_set ?_ GE224.out) | exact HB.out))) : w.heap.size ≤ gb250)); have n9_ := Aside0.mk ((by rw [hg]; exact Nat.ne_of_lt (blk_lt (g := gb224) (o := .cells #[.int .i64 a4_0, .int .i64 a4_1, .int .i64 a4_2] 37 (0, 0)) (by (with_reducible repeat (first | refine blk_drewN ?_ _ | refine blk_drew ?_ | refine blk_alloc ?_ _)); exact BK224.out)) : gb224 ≠ gb250)); have n10_ := Aside0.mk ((by rw [hg]; exact Nat.ne_of_gt (blk_lt (g := gb224) (o := .cells #[.int .i64 a4_0, .int .i64 a4_1, .int .i64 a4_2] 37 (0, 0)) (by (with_reducible repeat (first | refine blk_drewN ?_ _ | refine blk_drew ?_ | refine blk_alloc ?_ _)); exact BK224.out)) : gb250 ≠ gb224)); clear HO_11; clear HO_12; clear HO245; clear HO248; clear BK224; clear HB; have HO_11 := n0_; have HO_12 := n1_; have HO245 := n2_; have HO248 := n3_; have BK224 := n4_; have HB := n5_; have BK250 := n6_; have GW250 := n7_; have GE250 := n8_; have NB224_250 := n9_; have NB250_224 := n10_; clear n0_ n1_ n2_ n3_ n4_ n5_ n6_ n7_ n8_ n9_ n10_; clear hb hbox hg; obtain ⟨Ao40, co40, eo40⟩ := Kd.R_slice HO245.out; subst eo40; have hnb41 := NB250_224.out; have hnc41 := NB224_250.out; have hcz42_0 : w39.cell? ⟨gb250, 0, none⟩ = some (.slice none 0 0) := (blk_cell BK250.out 0).trans rfl; have hcz42_1 : w39.cell? ⟨gb250, 1, none⟩ = some (.slice none 0 0) := (blk_cell BK250.out 1).trans rfl; have hfz42_0 := blk_frozen BK250.out 0; have hfz42_1 := blk_frozen BK250.out 1; obtain ⟨Ao43, co43, eo43⟩ := Kd.R_slice HO248.out; subst eo43; have hcz44_0 : w39.cell? ⟨gb224, 0, none⟩ = some (.int .i64 a4_0) := (blk_cell BK224.out 0).trans rfl; have hcz44_1 : w39.cell? ⟨gb224, 1, none⟩ = some (.int .i64 a4_1) := (blk_cell BK224.out 1).trans rfl; have hcz44_2 : w39.cell? ⟨gb224, 2, none⟩ = some (.int .i64 a4_2) := (blk_cell BK224.out 2).trans rfl; have hfz44_0 := blk_frozen BK224.out 0; have hfz44_1 := blk_frozen BK224.out 1; have hfz44_2 := blk_frozen BK224.out 2; obtain ⟨Ao45, co45, eo45⟩ := Kd.R_slice HO_12.out; subst eo45) | ((with_reducible refine gate_callee (f := 12) rfl ?_); refine goesL_ (some 97) rfl rfl Try.func12 (by kernel_rfl) rfl #[.agg #[.slice A0 l0.length c0, .slice A1 l1.length c1], .slice Ao45 x12_2.length co45, .int .i64 (wrap64 (2 * a3)), .agg #[.int .i64 a4_0, .int .i64 a4_1, .int .i64 a4_2]] rfl (by (try simp only [List.map_toArray, List.map_cons, List.map_nil]); first | done | rfl | (simp only [List.length_drop, List.length_take]; rfl)) ?_; (with_reducible refine (opt_Apply.calls k2 _ _ l0 _ _ l1 _ _ x12_2 (wrap64 (2 * a3)) a4_0 a4_1 a4_2 t251 t254 t257 _ ?side1 ?side2 ?side3 ?side4 ?side5 ?side6 A34.out).mono ?_); (case side1 => exact Kd.C_below HR0.out (by repeat (first | (with_reducible first | exact HB.out | apply below_alloc | apply pw_below_drewN | apply below_drew1 | refine below_set ?_ GE224.out | refine below_set ?_ GE250.out) | exact HB.out))); (case side2 => exact HC0.out); (case side3 => exact Kd.C_below HR1.out (by repeat (first | (with_reducible first | exact HB.out | apply below_alloc | apply pw_below_drewN | apply below_drew1 | refine below_set ?_ GE224.out | refine below_set ?_ GE250.out) | exact HB.out))); (case side4 => exact HC1.out); (case side5 => refine (Kd.R_reads' (e := 30) (base := w.heap.size) (ok := fun k_ => some k_ ≠ (.slice Ao37 x11_2.length co37 : Value).ownBlock) (n := x12_2.length) (c := co45) ?_).2.2; exact (by (with_reducible repeat (first | apply Kd.R_alloc | apply Kd.R_drewN | apply Kd.R_drew)); exact (Kd.R_mono (Kd.R_far (p := ⟨gb250, 1, none⟩) (Kd.R_far (p := ⟨gb250, 0, none⟩) (Kd.R_types HO_12.out BK250.out (by decide)) (fun _ hk => hk.2) (.slice Ao40 t243.length co40)) (fun _ hk => hk.2) (.slice Ao43 t246.length co43)) (fun _ h_ => h_.1)))); (case side6 => exact (Kd.R_reads' HO_12.out).2.1); rintro e w46 ⟨v252, v255, rfl, ho0, ho1, hb⟩; refine ⟨_, rfl, ?_⟩; have n0_ := Aside0.mk (Kd.R_below (by (with_reducible repeat (first | apply Kd.R_alloc | apply Kd.R_drewN | apply Kd.R_drew)); exact (Kd.R_mono (Kd.R_far (p := ⟨gb250, 1, none⟩) (Kd.R_far (p := ⟨gb250, 0, none⟩) (Kd.R_types HO_11.out BK250.out (by decide)) (fun _ hk => hk.2) (.slice Ao40 t243.length co40)) (fun _ hk => hk.2) (.slice Ao43 t246.length co43)) (fun _ h_ => h_.1))) hb); have n1_ := Aside0.mk (Kd.R_below (by (with_reducible repeat (first | apply Kd.R_alloc | apply Kd.R_drewN | apply Kd.R_drew)); exact (Kd.R_mono (Kd.R_far (p := ⟨gb250, 1, none⟩) (Kd.R_far (p := ⟨gb250, 0, none⟩) (Kd.R_types HO_12.out BK250.out (by decide)) (fun _ hk => hk.2) (.slice Ao40 t243.length co40)) (fun _ hk => hk.2) (.slice Ao43 t246.length co43)) (fun _ h_ => h_.1))) hb); have n2_ := Aside0.mk (Kd.R_mono (Kd.R_told (Kd.R_told (Kd.R_old (by (with_reducible repeat (first | apply Kd.R_alloc | apply Kd.R_drewN | apply Kd.R_drew)); exact (Kd.R_mono (Kd.R_far (p := ⟨gb250, 1, none⟩) (Kd.R_far (p := ⟨gb250, 0, none⟩) (Kd.R_types HO245.out BK250.out (by decide)) (fun _ hk => hk.2) (.slice Ao40 t243.length co40)) (fun _ hk => hk.2) (.slice Ao43 t246.length co43)) (fun _ h_ => h_.1))) hb) (Kd.R_base ho0)) (Kd.R_base ho1)) (fun _ h_ => h_.1)); have n3_ := Aside0.mk (Kd.R_mono (Kd.R_told (Kd.R_told (Kd.R_old (by (with_reducible repeat (first | apply Kd.R_alloc | apply Kd.R_drewN | apply Kd.R_drew)); exact (Kd.R_mono (Kd.R_far (p := ⟨gb250, 1, none⟩) (Kd.R_far (p := ⟨gb250, 0, none⟩) (Kd.R_types HO248.out BK250.out (by decide)) (fun _ hk => hk.2) (.slice Ao40 t243.length co40)) (fun _ hk => hk.2) (.slice Ao43 t246.length co43)) (fun _ h_ => h_.1))) hb) (Kd.R_base ho0)) (Kd.R_base ho1)) (fun _ h_ => h_.1)); have n4_ := Aside0.mk (Kd.R_lower (Kd.R_new' (Kd.R_new' ho0 (Kd.R_lt (by (with_reducible repeat (first | apply Kd.R_alloc | apply Kd.R_drewN | apply Kd.R_drew)); exact (Kd.R_mono (Kd.R_far (p := ⟨gb250, 1, none⟩) (Kd.R_far (p := ⟨gb250, 0, none⟩) (Kd.R_types HO245.out BK250.out (by decide)) (fun _ hk => hk.2) (.slice Ao40 t243.length co40)) (fun _ hk => hk.2) (.slice Ao43 t246.length co43)) (fun _ h_ => h_.1))))) (Kd.R_lt (by (with_reducible repeat (first | apply Kd.R_alloc | apply Kd.R_drewN | apply Kd.R_drew)); exact (Kd.R_mono (Kd.R_far (p := ⟨gb250, 1, none⟩) (Kd.R_far (p := ⟨gb250, 0, none⟩) (Kd.R_types HO248.out BK250.out (by decide)) (fun _ hk => hk.2) (.slice Ao40 t243.length co40)) (fun _ hk => hk.2) (.slice Ao43 t246.length co43)) (fun _ h_ => h_.1))))) (below_size (by repeat (first | (with_reducible first | exact HB.out | apply below_alloc | apply pw_below_drewN | apply below_drew1 | refine below_set ?_ GE224.out | refine below_set ?_ GE250.out) | exact HB.out)))); have n5_ := Aside0.mk (Kd.R_lower (Kd.R_new' (Kd.R_new' ho1 (Kd.R_lt (by (with_reducible repeat (first | apply Kd.R_alloc | apply Kd.R_drewN | apply Kd.R_drew)); exact (Kd.R_mono (Kd.R_far (p := ⟨gb250, 1, none⟩) (Kd.R_far (p := ⟨gb250, 0, none⟩) (Kd.R_types HO245.out BK250.out (by decide)) (fun _ hk => hk.2) (.slice Ao40 t243.length co40)) (fun _ hk => hk.2) (.slice Ao43 t246.length co43)) (fun _ h_ => h_.1))))) (Kd.R_lt (by (with_reducible repeat (first | apply Kd.R_alloc | apply Kd.R_drewN | apply Kd.R_drew)); exact (Kd.R_mono (Kd.R_far (p := ⟨gb250, 1, none⟩) (Kd.R_far (p := ⟨gb250, 0, none⟩) (Kd.R_types HO248.out BK250.out (by decide)) (fun _ hk => hk.2) (.slice Ao40 t243.length co40)) (fun _ hk => hk.2) (.slice Ao43 t246.length co43)) (fun _ h_ => h_.1))))) (below_size (by repeat (first | (with_reducible first | exact HB.out | apply below_alloc | apply pw_below_drewN | apply below_drew1 | refine below_set ?_ GE224.out | refine below_set ?_ GE250.out) | exact HB.out)))); have n6_ := Aside0.mk (blk_below (g := gb224) (o := .cells #[.int .i64 a4_0, .int .i64 a4_1, .int .i64 a4_2] 37 (0, 0)) (by (with_reducible repeat (first | refine blk_drewN ?_ _ | refine blk_drew ?_ | refine blk_alloc ?_ _)); refine blk_far ?_ NB224_250.out _; (with_reducible repeat (first | refine blk_drewN ?_ _ | refine blk_drew ?_ | refine blk_alloc ?_ _)); refine blk_far ?_ NB224_250.out _; (with_reducible repeat (first | refine blk_drewN ?_ _ | refine blk_drew ?_ | refine blk_alloc ?_ _)); exact BK224.out) hb); have n7_ := Aside0.mk (blk_below (g := gb250) (o := .cells #[.slice Ao40 t243.length co40, .slice Ao43 t246.length co43] 25 (0, 0)) (by (with_reducible repeat (first | refine blk_drewN ?_ _ | refine blk_drew ?_ | refine blk_alloc ?_ _)); refine blk_put (cs := #[.slice Ao40 t243.length co40, .slice none 0 0]) ?_ 1 _ rfl; (with_reducible repeat (first | refine blk_drewN ?_ _ | refine blk_drew ?_ | refine blk_alloc ?_ _)); refine blk_put (cs := #[.slice none 0 0, .slice none 0 0]) ?_ 0 _ rfl; (with_reducible repeat (first | refine blk_drewN ?_ _ | refine blk_drew ?_ | refine blk_alloc ?_ _)); exact BK250.out) hb); have n8_ := Aside0.mk (below_step (by repeat (first | (with_reducible first | exact HB.out | apply below_alloc | apply pw_below_drewN | apply below_drew1 | refine below_set ?_ GE224.out | refine below_set ?_ GE250.out) | exact HB.out)) hb); clear HO_11; clear HO_12; clear HO245; clear HO248; clear BK224; clear BK250; clear HB; have HO_11 := n0_; have HO_12 := n1_; have HO245 := n2_; have HO248 := n3_; have HO253 := n4_; have HO256 := n5_; have BK224 := n6_; have BK250 := n7_; have HB := n8_; clear n0_ n1_ n2_ n3_ n4_ n5_ n6_ n7_ n8_; (try clear hb); (try clear hb2); (try clear hk); (try clear hi); (try clear ho0); (try clear ho1)) | ((with_reducible refine gate_dst (N := 16) rfl ?_); (try (refine gate_guard (by rfl) ?_; dsimp only)); refine box_event ?hg (N := 16) ?hd (cs := #[.slice none 0 0, .slice none 0 0]) (t := 25) ?hr ?_; (case hd => rfl); (case hg => rfl); (case hr => first | (go_simp; done) | (go_simp; rfl)); intro gb258 hg w47 hbox hb; have n0_ := Aside0.mk (Kd.R_below (by (with_reducible repeat (first | apply Kd.R_alloc | apply Kd.R_drewN | apply Kd.R_drew)); exact HO_11.out) hb); have n1_ := Aside0.mk (Kd.R_below (by (with_reducible repeat (first | apply Kd.R_alloc | apply Kd.R_drewN | apply Kd.R_drew)); exact HO_12.out) hb); have n2_ := Aside0.mk (Kd.R_below (by (with_reducible repeat (first | apply Kd.R_alloc | apply Kd.R_drewN | apply Kd.R_drew)); exact HO245.out) hb); have n3_ := Aside0.mk (Kd.R_below (by (with_reducible repeat (first | apply Kd.R_alloc | apply Kd.R_drewN | apply Kd.R_drew)); exact HO248.out) hb); have n4_ := Aside0.mk (Kd.R_below (by (with_reducible repeat (first | apply Kd.R_alloc | apply Kd.R_drewN | apply Kd.R_drew)); exact HO253.out) hb); have n5_ := Aside0.mk (Kd.R_below (by (with_reducible repeat (first | apply Kd.R_alloc | apply Kd.R_drewN | apply Kd.R_drew)); exact HO256.out) hb); have n6_ := Aside0.mk (blk_below (g := gb224) (o := .cells #[.int .i64 a4_0, .int .i64 a4_1, .int .i64 a4_2] 37 (0, 0)) (by (with_reducible repeat (first | refine blk_drewN ?_ _ | refine blk_drew ?_ | refine blk_alloc ?_ _)); exact BK224.out) hb); have n7_ := Aside0.mk (blk_below (g := gb250) (o := .cells #[.slice Ao40 t243.length co40, .slice Ao43 t246.length co43] 25 (0, 0)) (by (with_reducible repeat (first | refine blk_drewN ?_ _ | refine blk_drew ?_ | refine blk_alloc ?_ _)); exact BK250.out) hb); have n8_ := Aside0.mk (below_step (by repeat (first | (with_reducible first | exact HB.out | apply below_alloc | apply pw_below_drewN | apply below_drew1 | refine below_set ?_ GE224.out | refine below_set ?_ GE250.out) | exact HB.out)) hb); have n9_ := Aside0.mk (hbox); have n10_ := Aside0.mk ((by rw [hg]; exact (below_size (by repeat (first | (with_reducible first | exact HB.out | apply below_alloc | apply pw_below_drewN | apply below_drew1 | refine below_set ?_ GE224.out | refine below_set ?_ GE250.out) | exact HB.out))) : w.heap.size ≤ gb258)); have n11_ := Aside0.mk ((by rw [hg]; exact (below_size (by repeat (first | (with_reducible first | exact HB.out | apply below_alloc | apply pw_below_drewN | apply below_drew1 | refine below_set ?_ GE224.out | refine below_set ?_ GE250.out) | exact HB.out))) : w.heap.size ≤ gb258)); have n12_ := Aside0.mk ((by rw [hg]; exact Nat.ne_of_lt (blk_lt (g := gb224) (o := .cells #[.int .i64 a4_0, .int .i64 a4_1, .int .i64 a4_2] 37 (0, 0)) (by (with_reducible repeat (first | refine blk_drewN ?_ _ | refine blk_drew ?_ | refine blk_alloc ?_ _)); exact BK224.out)) : gb224 ≠ gb258)); have n13_ := Aside0.mk ((by rw [hg]; exact Nat.ne_of_gt (blk_lt (g := gb224) (o := .cells #[.int .i64 a4_0, .int .i64 a4_1, .int .i64 a4_2] 37 (0, 0)) (by (with_reducible repeat (first | refine blk_drewN ?_ _ | refine blk_drew ?_ | refine blk_alloc ?_ _)); exact BK224.out)) : gb258 ≠ gb224)); have n14_ := Aside0.mk ((by rw [hg]; exact Nat.ne_of_lt (blk_lt (g := gb250) (o := .cells #[.slice Ao40 t243.length co40, .slice Ao43 t246.length co43] 25 (0, 0)) (by (with_reducible repeat (first | refine blk_drewN ?_ _ | refine blk_drew ?_ | refine blk_alloc ?_ _)); exact BK250.out)) : gb250 ≠ gb258)); have n15_ := Aside0.mk ((by rw [hg]; exact Nat.ne_of_gt (blk_lt (g := gb250) (o := .cells #[.slice Ao40 t243.length co40, .slice Ao43 t246.length co43] 25 (0, 0)) (by (with_reducible repeat (first | refine blk_drewN ?_ _ | refine blk_drew ?_ | refine blk_alloc ?_ _)); exact BK250.out)) : gb258 ≠ gb250)); clear HO_11; clear HO_12; clear HO245; clear HO248; clear HO253; clear HO256; clear BK224; clear BK250; clear HB; have HO_11 := n0_; have HO_12 := n1_; have HO245 := n2_; have HO248 := n3_; have HO253 := n4_; have HO256 := n5_; have BK224 := n6_; have BK250 := n7_; have HB := n8_; have BK258 := n9_; have GW258 := n10_; have GE258 := n11_; have NB224_258 := n12_; have NB258_224 := n13_; have NB250_258 := n14_; have NB258_250 := n15_; clear n0_ n1_ n2_ n3_ n4_ n5_ n6_ n7_ n8_ n9_ n10_ n11_ n12_ n13_ n14_ n15_; clear hb hbox hg; obtain ⟨Ao48, co48, eo48⟩ := Kd.R_slice HO253.out; subst eo48; have hnb49 := NB258_224.out; have hnc49 := NB224_258.out; have hnb50 := NB258_250.out; have hnc50 := NB250_258.out; have hcz51_0 : w47.cell? ⟨gb258, 0, none⟩ = some (.slice none 0 0) := (blk_cell BK258.out 0).trans rfl; have hcz51_1 : w47.cell? ⟨gb258, 1, none⟩ = some (.slice none 0 0) := (blk_cell BK258.out 1).trans rfl; have hfz51_0 := blk_frozen BK258.out 0; have hfz51_1 := blk_frozen BK258.out 1; obtain ⟨Ao52, co52, eo52⟩ := Kd.R_slice HO256.out; subst eo52))
                (try simp only [Act.put, List.setIfInBounds_toArray, List.set_cons_zero, List.set_cons_succ])
                go_cut [121] (fun v121 wc => ∃ (kq : Nat) (x121_34 : Bool), v121 = .bool x121_34 ∧ Aside0 (carousellaw15_OptMeans.j2 kq l0 x121_34 t243 t246 t251 t254 = some r) ∧ Aside0 (kq ≤ k2) ∧ Aside0 (Kd.R (Kd.int .i64) 27 wc w.heap.size (fun k_ => some k_ ≠ ((.slice Ao43 t246.length co43) : Value).ownBlock ∧ some k_ ≠ ((.slice Ao48 t251.length co48) : Value).ownBlock ∧ some k_ ≠ ((.slice Ao52 t254.length co52) : Value).ownBlock) (.slice Ao40 t243.length co40) t243) ∧ Aside0 (Kd.R (Kd.int .i64) 27 wc w.heap.size (fun k_ => some k_ ≠ ((.slice Ao40 t243.length co40) : Value).ownBlock ∧ some k_ ≠ ((.slice Ao48 t251.length co48) : Value).ownBlock ∧ some k_ ≠ ((.slice Ao52 t254.length co52) : Value).ownBlock) (.slice Ao43 t246.length co43) t246) ∧ Aside0 (Kd.R (Kd.int .i64) 27 wc w.heap.size (fun k_ => some k_ ≠ ((.slice Ao40 t243.length co40) : Value).ownBlock ∧ some k_ ≠ ((.slice Ao43 t246.length co43) : Value).ownBlock ∧ some k_ ≠ ((.slice Ao52 t254.length co52) : Value).ownBlock) (.slice Ao48 t251.length co48) t251) ∧ Aside0 (Kd.R (Kd.int .i64) 27 wc w.heap.size (fun k_ => some k_ ≠ ((.slice Ao40 t243.length co40) : Value).ownBlock ∧ some k_ ≠ ((.slice Ao43 t246.length co43) : Value).ownBlock ∧ some k_ ≠ ((.slice Ao48 t251.length co48) : Value).ownBlock) (.slice Ao52 t254.length co52) t254) ∧ Aside0 (wc.heap[gb224]? = some (.cells #[.int .i64 a4_0, .int .i64 a4_1, .int .i64 a4_2] 37 (0, 0))) ∧ Aside0 (wc.heap[gb250]? = some (.cells #[(.slice Ao40 t243.length co40), (.slice Ao43 t246.length co43)] 25 (0, 0))) ∧ Aside0 (wc.heap[gb258]? = some (.cells #[(.slice Ao48 t251.length co48), (.slice Ao52 t254.length co52)] 25 (0, 0))) ∧ Aside0 (Below w.heap.size w wc))
                case first =>
                  have H := HC35.out
                  clear HC35
                  by_cases c53 : t249 = 0
                  · rw [if_pos c53] at H
                    have c53b0 : (t249 == 0) = true := beq_iff_eq.mpr c53
                    have c53b1 : (t249 != 0) = false := bne_eq_false_iff_eq.mpr c53
                    clear c53
                    (first | rw [c53b0] | (simp only [i64_w, i32_w]; rw [c53b0]) | skip)
                    by_cases c54 : t257 = 0
                    · rw [if_pos c54] at H
                      have c54b0 : (t257 == 0) = true := beq_iff_eq.mpr c54
                      have c54b1 : (t257 != 0) = false := bne_eq_false_iff_eq.mpr c54
                      clear c54
                      by_cases c55 : (t243.length : Int) = (l0.length : Int)
                      · rw [if_pos c55] at H
                        have c55b0 : ((t243.length : Int) == (l0.length : Int)) = true := beq_iff_eq.mpr c55
                        have c55b1 : ((t243.length : Int) != (l0.length : Int)) = false := bne_eq_false_iff_eq.mpr c55
                        have c55b2 : (t243.length == l0.length) = true := by first | simpa using c55 | (simp at c55 ⊢; omega)
                        clear c55
                        have H' := Aside0.mk H
                        clear H
                        have hnb56 := NB250_224.out
                        have hnc56 := NB224_250.out
                        have hnb57 := NB250_258.out
                        have hnc57 := NB258_250.out
                        have hcz58_0 : w47.cell? ⟨gb250, 0, none⟩ = some (.slice Ao40 t243.length co40) := (blk_cell BK250.out 0).trans rfl
                        have hcz58_1 : w47.cell? ⟨gb250, 1, none⟩ = some (.slice Ao43 t246.length co43) := (blk_cell BK250.out 1).trans rfl
                        have hfz58_0 := blk_frozen BK250.out 0
                        have hfz58_1 := blk_frozen BK250.out 1
                        have hnb59 := NB258_224.out
                        have hnc59 := NB224_258.out
                        have hcz60_0 : w47.cell? ⟨gb258, 0, none⟩ = some (.slice none 0 0) := (blk_cell BK258.out 0).trans rfl
                        have hcz60_1 : w47.cell? ⟨gb258, 1, none⟩ = some (.slice none 0 0) := (blk_cell BK258.out 1).trans rfl
                        have hfz60_0 := blk_frozen BK258.out 0
                        have hfz60_1 := blk_frozen BK258.out 1
                        go_wp2
                        go_meet
                        case rel => exact ⟨_, (((t251.length : Int) != (l0.length : Int))), (by first | rfl | (simp; done) | (simp [*]; done)), H', ⟨by have := HJ7.out; have := HK2.out; first | omega | exact Nat.le_refl _⟩, ⟨by (with_reducible repeat (first | apply Kd.R_alloc | apply Kd.R_drewN | apply Kd.R_drew)); exact Kd.R_mono (Kd.R_far (p := ⟨gb258, 1, none⟩) (Kd.R_far (p := ⟨gb258, 0, none⟩) (Kd.R_types HO245.out BK258.out (by decide)) (fun _ hk => hk.2) (.slice Ao48 t251.length co48)) (fun _ hk => hk.2) (.slice Ao52 t254.length co52)) (fun _ hk => ⟨hk.1.1.1, ⟨hk.1.1.2, hk.1.2⟩⟩)⟩, ⟨by (with_reducible repeat (first | apply Kd.R_alloc | apply Kd.R_drewN | apply Kd.R_drew)); exact Kd.R_mono (Kd.R_far (p := ⟨gb258, 1, none⟩) (Kd.R_far (p := ⟨gb258, 0, none⟩) (Kd.R_types HO248.out BK258.out (by decide)) (fun _ hk => hk.2) (.slice Ao48 t251.length co48)) (fun _ hk => hk.2) (.slice Ao52 t254.length co52)) (fun _ hk => ⟨hk.1.1.1, ⟨hk.1.1.2, hk.1.2⟩⟩)⟩, ⟨by (with_reducible repeat (first | apply Kd.R_alloc | apply Kd.R_drewN | apply Kd.R_drew)); exact Kd.R_mono (Kd.R_far (p := ⟨gb258, 1, none⟩) (Kd.R_far (p := ⟨gb258, 0, none⟩) (Kd.R_types HO253.out BK258.out (by decide)) (fun _ hk => hk.2) (.slice Ao48 t251.length co48)) (fun _ hk => hk.2) (.slice Ao52 t254.length co52)) (fun _ hk => ⟨hk.1.1.2, ⟨hk.1.2, hk.1.1.1⟩⟩)⟩, ⟨by (with_reducible repeat (first | apply Kd.R_alloc | apply Kd.R_drewN | apply Kd.R_drew)); exact Kd.R_mono (Kd.R_far (p := ⟨gb258, 1, none⟩) (Kd.R_far (p := ⟨gb258, 0, none⟩) (Kd.R_types HO256.out BK258.out (by decide)) (fun _ hk => hk.2) (.slice Ao48 t251.length co48)) (fun _ hk => hk.2) (.slice Ao52 t254.length co52)) (fun _ hk => ⟨hk.1.1.2, ⟨hk.1.2, hk.1.1.1⟩⟩)⟩, ⟨by (with_reducible repeat (first | refine blk_drewN ?_ _ | refine blk_drew ?_ | refine blk_alloc ?_ _)); refine blk_far ?_ NB224_258.out _; (with_reducible repeat (first | refine blk_drewN ?_ _ | refine blk_drew ?_ | refine blk_alloc ?_ _)); refine blk_far ?_ NB224_258.out _; (with_reducible repeat (first | refine blk_drewN ?_ _ | refine blk_drew ?_ | refine blk_alloc ?_ _)); exact BK224.out⟩, ⟨by (with_reducible repeat (first | refine blk_drewN ?_ _ | refine blk_drew ?_ | refine blk_alloc ?_ _)); refine blk_far ?_ NB250_258.out _; (with_reducible repeat (first | refine blk_drewN ?_ _ | refine blk_drew ?_ | refine blk_alloc ?_ _)); refine blk_far ?_ NB250_258.out _; (with_reducible repeat (first | refine blk_drewN ?_ _ | refine blk_drew ?_ | refine blk_alloc ?_ _)); exact BK250.out⟩, ⟨by (with_reducible repeat (first | refine blk_drewN ?_ _ | refine blk_drew ?_ | refine blk_alloc ?_ _)); refine blk_put (cs := #[.slice Ao48 t251.length co48, .slice none 0 0]) ?_ 1 _ rfl; (with_reducible repeat (first | refine blk_drewN ?_ _ | refine blk_drew ?_ | refine blk_alloc ?_ _)); refine blk_put (cs := #[.slice none 0 0, .slice none 0 0]) ?_ 0 _ rfl; (with_reducible repeat (first | refine blk_drewN ?_ _ | refine blk_drew ?_ | refine blk_alloc ?_ _)); exact BK258.out⟩, ⟨by repeat (first | (with_reducible first | exact HB.out | apply below_alloc | apply pw_below_drewN | apply below_drew1 | refine below_set ?_ GE224.out | refine below_set ?_ GE250.out | refine below_set ?_ GE258.out) | exact HB.out)⟩⟩
                      · rw [if_neg c55] at H
                        have c55b0 : ((t243.length : Int) == (l0.length : Int)) = false := beq_eq_false_iff_ne.mpr c55
                        have c55b1 : ((t243.length : Int) != (l0.length : Int)) = true := bne_iff_ne.mpr c55
                        have c55b2 : (t243.length == l0.length) = false := by first | simpa using c55 | (simp at c55 ⊢; omega)
                        have H' := Aside0.mk H
                        clear H
                        have hnb61 := NB250_224.out
                        have hnc61 := NB224_250.out
                        have hnb62 := NB250_258.out
                        have hnc62 := NB258_250.out
                        have hcz63_0 : w47.cell? ⟨gb250, 0, none⟩ = some (.slice Ao40 t243.length co40) := (blk_cell BK250.out 0).trans rfl
                        have hcz63_1 : w47.cell? ⟨gb250, 1, none⟩ = some (.slice Ao43 t246.length co43) := (blk_cell BK250.out 1).trans rfl
                        have hfz63_0 := blk_frozen BK250.out 0
                        have hfz63_1 := blk_frozen BK250.out 1
                        go_wp2
                        go_meet
                        case rel => exact ⟨_, (true), (by first | rfl | (simp; done) | (simp [*]; done)), H', ⟨by have := HJ7.out; have := HK2.out; first | omega | exact Nat.le_refl _⟩, ⟨by (with_reducible repeat (first | apply Kd.R_alloc | apply Kd.R_drewN | apply Kd.R_drew)); exact Kd.R_mono (Kd.R_far (p := ⟨gb258, 1, none⟩) (Kd.R_far (p := ⟨gb258, 0, none⟩) (Kd.R_types HO245.out BK258.out (by decide)) (fun _ hk => hk.2) (.slice Ao48 t251.length co48)) (fun _ hk => hk.2) (.slice Ao52 t254.length co52)) (fun _ hk => ⟨hk.1.1.1, ⟨hk.1.1.2, hk.1.2⟩⟩)⟩, ⟨by (with_reducible repeat (first | apply Kd.R_alloc | apply Kd.R_drewN | apply Kd.R_drew)); exact Kd.R_mono (Kd.R_far (p := ⟨gb258, 1, none⟩) (Kd.R_far (p := ⟨gb258, 0, none⟩) (Kd.R_types HO248.out BK258.out (by decide)) (fun _ hk => hk.2) (.slice Ao48 t251.length co48)) (fun _ hk => hk.2) (.slice Ao52 t254.length co52)) (fun _ hk => ⟨hk.1.1.1, ⟨hk.1.1.2, hk.1.2⟩⟩)⟩, ⟨by (with_reducible repeat (first | apply Kd.R_alloc | apply Kd.R_drewN | apply Kd.R_drew)); exact Kd.R_mono (Kd.R_far (p := ⟨gb258, 1, none⟩) (Kd.R_far (p := ⟨gb258, 0, none⟩) (Kd.R_types HO253.out BK258.out (by decide)) (fun _ hk => hk.2) (.slice Ao48 t251.length co48)) (fun _ hk => hk.2) (.slice Ao52 t254.length co52)) (fun _ hk => ⟨hk.1.1.2, ⟨hk.1.2, hk.1.1.1⟩⟩)⟩, ⟨by (with_reducible repeat (first | apply Kd.R_alloc | apply Kd.R_drewN | apply Kd.R_drew)); exact Kd.R_mono (Kd.R_far (p := ⟨gb258, 1, none⟩) (Kd.R_far (p := ⟨gb258, 0, none⟩) (Kd.R_types HO256.out BK258.out (by decide)) (fun _ hk => hk.2) (.slice Ao48 t251.length co48)) (fun _ hk => hk.2) (.slice Ao52 t254.length co52)) (fun _ hk => ⟨hk.1.1.2, ⟨hk.1.2, hk.1.1.1⟩⟩)⟩, ⟨by (with_reducible repeat (first | refine blk_drewN ?_ _ | refine blk_drew ?_ | refine blk_alloc ?_ _)); refine blk_far ?_ NB224_258.out _; (with_reducible repeat (first | refine blk_drewN ?_ _ | refine blk_drew ?_ | refine blk_alloc ?_ _)); refine blk_far ?_ NB224_258.out _; (with_reducible repeat (first | refine blk_drewN ?_ _ | refine blk_drew ?_ | refine blk_alloc ?_ _)); exact BK224.out⟩, ⟨by (with_reducible repeat (first | refine blk_drewN ?_ _ | refine blk_drew ?_ | refine blk_alloc ?_ _)); refine blk_far ?_ NB250_258.out _; (with_reducible repeat (first | refine blk_drewN ?_ _ | refine blk_drew ?_ | refine blk_alloc ?_ _)); refine blk_far ?_ NB250_258.out _; (with_reducible repeat (first | refine blk_drewN ?_ _ | refine blk_drew ?_ | refine blk_alloc ?_ _)); exact BK250.out⟩, ⟨by (with_reducible repeat (first | refine blk_drewN ?_ _ | refine blk_drew ?_ | refine blk_alloc ?_ _)); refine blk_put (cs := #[.slice Ao48 t251.length co48, .slice none 0 0]) ?_ 1 _ rfl; (with_reducible repeat (first | refine blk_drewN ?_ _ | refine blk_drew ?_ | refine blk_alloc ?_ _)); refine blk_put (cs := #[.slice none 0 0, .slice none 0 0]) ?_ 0 _ rfl; (with_reducible repeat (first | refine blk_drewN ?_ _ | refine blk_drew ?_ | refine blk_alloc ?_ _)); exact BK258.out⟩, ⟨by repeat (first | (with_reducible first | exact HB.out | apply below_alloc | apply pw_below_drewN | apply below_drew1 | refine below_set ?_ GE224.out | refine below_set ?_ GE250.out | refine below_set ?_ GE258.out) | exact HB.out)⟩⟩
                    · rw [if_neg c54] at H
                      have c54b0 : (t257 == 0) = false := beq_eq_false_iff_ne.mpr c54
                      have c54b1 : (t257 != 0) = true := bne_iff_ne.mpr c54
                      have H' := Aside0.mk H
                      clear H
                      go_wp2
                      go_meet
                      case rel => exact ⟨_, (true), (by first | rfl | (simp; done) | (simp [*]; done)), H', ⟨by have := HJ7.out; have := HK2.out; first | omega | exact Nat.le_refl _⟩, ⟨by (with_reducible repeat (first | apply Kd.R_alloc | apply Kd.R_drewN | apply Kd.R_drew)); exact Kd.R_mono (Kd.R_far (p := ⟨gb258, 1, none⟩) (Kd.R_far (p := ⟨gb258, 0, none⟩) (Kd.R_types HO245.out BK258.out (by decide)) (fun _ hk => hk.2) (.slice Ao48 t251.length co48)) (fun _ hk => hk.2) (.slice Ao52 t254.length co52)) (fun _ hk => ⟨hk.1.1.1, ⟨hk.1.1.2, hk.1.2⟩⟩)⟩, ⟨by (with_reducible repeat (first | apply Kd.R_alloc | apply Kd.R_drewN | apply Kd.R_drew)); exact Kd.R_mono (Kd.R_far (p := ⟨gb258, 1, none⟩) (Kd.R_far (p := ⟨gb258, 0, none⟩) (Kd.R_types HO248.out BK258.out (by decide)) (fun _ hk => hk.2) (.slice Ao48 t251.length co48)) (fun _ hk => hk.2) (.slice Ao52 t254.length co52)) (fun _ hk => ⟨hk.1.1.1, ⟨hk.1.1.2, hk.1.2⟩⟩)⟩, ⟨by (with_reducible repeat (first | apply Kd.R_alloc | apply Kd.R_drewN | apply Kd.R_drew)); exact Kd.R_mono (Kd.R_far (p := ⟨gb258, 1, none⟩) (Kd.R_far (p := ⟨gb258, 0, none⟩) (Kd.R_types HO253.out BK258.out (by decide)) (fun _ hk => hk.2) (.slice Ao48 t251.length co48)) (fun _ hk => hk.2) (.slice Ao52 t254.length co52)) (fun _ hk => ⟨hk.1.1.2, ⟨hk.1.2, hk.1.1.1⟩⟩)⟩, ⟨by (with_reducible repeat (first | apply Kd.R_alloc | apply Kd.R_drewN | apply Kd.R_drew)); exact Kd.R_mono (Kd.R_far (p := ⟨gb258, 1, none⟩) (Kd.R_far (p := ⟨gb258, 0, none⟩) (Kd.R_types HO256.out BK258.out (by decide)) (fun _ hk => hk.2) (.slice Ao48 t251.length co48)) (fun _ hk => hk.2) (.slice Ao52 t254.length co52)) (fun _ hk => ⟨hk.1.1.2, ⟨hk.1.2, hk.1.1.1⟩⟩)⟩, ⟨by (with_reducible repeat (first | refine blk_drewN ?_ _ | refine blk_drew ?_ | refine blk_alloc ?_ _)); refine blk_far ?_ NB224_258.out _; (with_reducible repeat (first | refine blk_drewN ?_ _ | refine blk_drew ?_ | refine blk_alloc ?_ _)); refine blk_far ?_ NB224_258.out _; (with_reducible repeat (first | refine blk_drewN ?_ _ | refine blk_drew ?_ | refine blk_alloc ?_ _)); exact BK224.out⟩, ⟨by (with_reducible repeat (first | refine blk_drewN ?_ _ | refine blk_drew ?_ | refine blk_alloc ?_ _)); refine blk_far ?_ NB250_258.out _; (with_reducible repeat (first | refine blk_drewN ?_ _ | refine blk_drew ?_ | refine blk_alloc ?_ _)); refine blk_far ?_ NB250_258.out _; (with_reducible repeat (first | refine blk_drewN ?_ _ | refine blk_drew ?_ | refine blk_alloc ?_ _)); exact BK250.out⟩, ⟨by (with_reducible repeat (first | refine blk_drewN ?_ _ | refine blk_drew ?_ | refine blk_alloc ?_ _)); refine blk_put (cs := #[.slice Ao48 t251.length co48, .slice none 0 0]) ?_ 1 _ rfl; (with_reducible repeat (first | refine blk_drewN ?_ _ | refine blk_drew ?_ | refine blk_alloc ?_ _)); refine blk_put (cs := #[.slice none 0 0, .slice none 0 0]) ?_ 0 _ rfl; (with_reducible repeat (first | refine blk_drewN ?_ _ | refine blk_drew ?_ | refine blk_alloc ?_ _)); exact BK258.out⟩, ⟨by repeat (first | (with_reducible first | exact HB.out | apply below_alloc | apply pw_below_drewN | apply below_drew1 | refine below_set ?_ GE224.out | refine below_set ?_ GE250.out | refine below_set ?_ GE258.out) | exact HB.out)⟩⟩
                  · rw [if_neg c53] at H
                    have c53b0 : (t249 == 0) = false := beq_eq_false_iff_ne.mpr c53
                    have c53b1 : (t249 != 0) = true := bne_iff_ne.mpr c53
                    (first | rw [c53b0] | (simp only [i64_w, i32_w]; rw [c53b0]) | skip)
                    have H' := Aside0.mk H
                    clear H
                    go_wp2
                    go_meet
                    case rel => exact ⟨_, (true), (by first | rfl | (simp; done) | (simp [*]; done)), H', ⟨by have := HJ7.out; have := HK2.out; first | omega | exact Nat.le_refl _⟩, ⟨by (with_reducible repeat (first | apply Kd.R_alloc | apply Kd.R_drewN | apply Kd.R_drew)); exact Kd.R_mono (Kd.R_far (p := ⟨gb258, 1, none⟩) (Kd.R_far (p := ⟨gb258, 0, none⟩) (Kd.R_types HO245.out BK258.out (by decide)) (fun _ hk => hk.2) (.slice Ao48 t251.length co48)) (fun _ hk => hk.2) (.slice Ao52 t254.length co52)) (fun _ hk => ⟨hk.1.1.1, ⟨hk.1.1.2, hk.1.2⟩⟩)⟩, ⟨by (with_reducible repeat (first | apply Kd.R_alloc | apply Kd.R_drewN | apply Kd.R_drew)); exact Kd.R_mono (Kd.R_far (p := ⟨gb258, 1, none⟩) (Kd.R_far (p := ⟨gb258, 0, none⟩) (Kd.R_types HO248.out BK258.out (by decide)) (fun _ hk => hk.2) (.slice Ao48 t251.length co48)) (fun _ hk => hk.2) (.slice Ao52 t254.length co52)) (fun _ hk => ⟨hk.1.1.1, ⟨hk.1.1.2, hk.1.2⟩⟩)⟩, ⟨by (with_reducible repeat (first | apply Kd.R_alloc | apply Kd.R_drewN | apply Kd.R_drew)); exact Kd.R_mono (Kd.R_far (p := ⟨gb258, 1, none⟩) (Kd.R_far (p := ⟨gb258, 0, none⟩) (Kd.R_types HO253.out BK258.out (by decide)) (fun _ hk => hk.2) (.slice Ao48 t251.length co48)) (fun _ hk => hk.2) (.slice Ao52 t254.length co52)) (fun _ hk => ⟨hk.1.1.2, ⟨hk.1.2, hk.1.1.1⟩⟩)⟩, ⟨by (with_reducible repeat (first | apply Kd.R_alloc | apply Kd.R_drewN | apply Kd.R_drew)); exact Kd.R_mono (Kd.R_far (p := ⟨gb258, 1, none⟩) (Kd.R_far (p := ⟨gb258, 0, none⟩) (Kd.R_types HO256.out BK258.out (by decide)) (fun _ hk => hk.2) (.slice Ao48 t251.length co48)) (fun _ hk => hk.2) (.slice Ao52 t254.length co52)) (fun _ hk => ⟨hk.1.1.2, ⟨hk.1.2, hk.1.1.1⟩⟩)⟩, ⟨by (with_reducible repeat (first | refine blk_drewN ?_ _ | refine blk_drew ?_ | refine blk_alloc ?_ _)); refine blk_far ?_ NB224_258.out _; (with_reducible repeat (first | refine blk_drewN ?_ _ | refine blk_drew ?_ | refine blk_alloc ?_ _)); refine blk_far ?_ NB224_258.out _; (with_reducible repeat (first | refine blk_drewN ?_ _ | refine blk_drew ?_ | refine blk_alloc ?_ _)); exact BK224.out⟩, ⟨by (with_reducible repeat (first | refine blk_drewN ?_ _ | refine blk_drew ?_ | refine blk_alloc ?_ _)); refine blk_far ?_ NB250_258.out _; (with_reducible repeat (first | refine blk_drewN ?_ _ | refine blk_drew ?_ | refine blk_alloc ?_ _)); refine blk_far ?_ NB250_258.out _; (with_reducible repeat (first | refine blk_drewN ?_ _ | refine blk_drew ?_ | refine blk_alloc ?_ _)); exact BK250.out⟩, ⟨by (with_reducible repeat (first | refine blk_drewN ?_ _ | refine blk_drew ?_ | refine blk_alloc ?_ _)); refine blk_put (cs := #[.slice Ao48 t251.length co48, .slice none 0 0]) ?_ 1 _ rfl; (with_reducible repeat (first | refine blk_drewN ?_ _ | refine blk_drew ?_ | refine blk_alloc ?_ _)); refine blk_put (cs := #[.slice none 0 0, .slice none 0 0]) ?_ 0 _ rfl; (with_reducible repeat (first | refine blk_drewN ?_ _ | refine blk_drew ?_ | refine blk_alloc ?_ _)); exact BK258.out⟩, ⟨by repeat (first | (with_reducible first | exact HB.out | apply below_alloc | apply pw_below_drewN | apply below_drew1 | refine below_set ?_ GE224.out | refine below_set ?_ GE250.out | refine below_set ?_ GE258.out) | exact HB.out)⟩⟩
                case rest =>
                  clear HC35
                  try clear c1
                  try clear c2
                  try clear p2
                  try clear q2
                  try clear hx2
                  try clear c4
                  try clear c5
                  try clear c6
                  try clear p6
                  try clear c7
                  try clear c8
                  try clear c9
                  try clear c11
                  try clear c11b0
                  try clear c11b1
                  try clear c12
                  try clear c12b0
                  try clear c12b1
                  try clear c12b2
                  try clear c13
                  try clear c13b0
                  try clear c13b1
                  try clear c13b2
                  try clear c14
                  try clear c14b0
                  try clear c15
                  try clear c15b0
                  try clear c17
                  try clear c18
                  try clear c18b0
                  try clear c19
                  try clear c19b0
                  try clear c21
                  try clear p22
                  try clear q22
                  try clear hx22
                  try clear p23
                  try clear q23
                  try clear hx23
                  try clear c25
                  try clear c41
                  try clear c49
                  try clear c50
                  try clear c53
                  try clear c53b0
                  try clear c53b1
                  try clear c54
                  try clear c54b0
                  try clear c54b1
                  try clear c55
                  try clear c55b0
                  try clear c55b1
                  try clear c55b2
                  try clear c56
                  try clear c57
                  try clear c59
                  try clear c61
                  try clear c62
                  try clear hcz16_0
                  try clear hcz16_1
                  try clear hcz16_2
                  try clear hcz36_0
                  try clear hcz36_1
                  try clear hcz36_2
                  try clear hcz42_0
                  try clear hcz42_1
                  try clear hcz44_0
                  try clear hcz44_1
                  try clear hcz44_2
                  try clear hcz51_0
                  try clear hcz51_1
                  try clear hcz58_0
                  try clear hcz58_1
                  try clear hcz60_0
                  try clear hcz60_1
                  try clear hcz63_0
                  try clear hcz63_1
                  try clear hfz16_0
                  try clear hfz16_1
                  try clear hfz16_2
                  try clear hfz36_0
                  try clear hfz36_1
                  try clear hfz36_2
                  try clear hfz42_0
                  try clear hfz42_1
                  try clear hfz44_0
                  try clear hfz44_1
                  try clear hfz44_2
                  try clear hfz51_0
                  try clear hfz51_1
                  try clear hfz58_0
                  try clear hfz58_1
                  try clear hfz60_0
                  try clear hfz60_1
                  try clear hfz63_0
                  try clear hfz63_1
                  try clear hx226_0
                  try clear hx232_0
                  try clear hx235_0
                  try clear p2
                  try clear p226
                  try clear p232
                  try clear p235
                  try clear q226
                  try clear q232
                  try clear q235
                  obtain ⟨kq, x121_34, rfl, HA, HJ34, HO_251000, HO_251001, HO_259000, HO_259001, BK224, BK250, BK258, HB⟩ := hcut
                  cases kq with
                  | zero => exact absurd HA.out (by simp [carousellaw15_OptMeans.j2])
                  | succ kj34 =>
                    have H := HA.out
                    clear HA
                    simp only [carousellaw15_OptMeans.j2] at H
                    by_cases c64 : x121_34 = true
                    · subst c64
                      have H1 : (none) = some r := by rw [if_pos rfl] at H; exact H
                      clear H
                      have H := H1
                      clear H1
                      exact absurd H (by simp)
                    · replace c64 := Bool.eq_false_iff.mpr c64
                      subst c64
                      have H1 : (carousellaw15_OptMeans.l1 kj34 l0 0 t243 t246 t251 t254) = some r := by rw [if_neg (show ¬ (false = true) by decide)] at H; exact H
                      clear H
                      have H := H1
                      clear H1
                      have H' := Aside0.mk H
                      clear H
                      go_wp2
                      go_loopg [18] kj34 (fun kq v18 w' => ∃ (x18_4 : Int), v18 = .int .i64 x18_4 ∧ Aside0 (carousellaw15_OptMeans.l1 kq l0 x18_4 t243 t246 t251 t254 = some r) ∧ Aside0 (kq ≤ kj34) ∧ Aside0 (Kd.R (Kd.int .i64) 27 w' w.heap.size (fun k_ => some k_ ≠ ((.slice Ao43 t246.length co43) : Value).ownBlock ∧ some k_ ≠ ((.slice Ao48 t251.length co48) : Value).ownBlock ∧ some k_ ≠ ((.slice Ao52 t254.length co52) : Value).ownBlock) (.slice Ao40 t243.length co40) t243) ∧ Aside0 (Kd.R (Kd.int .i64) 27 w' w.heap.size (fun k_ => some k_ ≠ ((.slice Ao40 t243.length co40) : Value).ownBlock ∧ some k_ ≠ ((.slice Ao48 t251.length co48) : Value).ownBlock ∧ some k_ ≠ ((.slice Ao52 t254.length co52) : Value).ownBlock) (.slice Ao43 t246.length co43) t246) ∧ Aside0 (Kd.R (Kd.int .i64) 27 w' w.heap.size (fun k_ => some k_ ≠ ((.slice Ao40 t243.length co40) : Value).ownBlock ∧ some k_ ≠ ((.slice Ao43 t246.length co43) : Value).ownBlock ∧ some k_ ≠ ((.slice Ao52 t254.length co52) : Value).ownBlock) (.slice Ao48 t251.length co48) t251) ∧ Aside0 (Kd.R (Kd.int .i64) 27 w' w.heap.size (fun k_ => some k_ ≠ ((.slice Ao40 t243.length co40) : Value).ownBlock ∧ some k_ ≠ ((.slice Ao43 t246.length co43) : Value).ownBlock ∧ some k_ ≠ ((.slice Ao48 t251.length co48) : Value).ownBlock) (.slice Ao52 t254.length co52) t254) ∧ Aside0 (w'.heap[gb224]? = some (.cells #[.int .i64 a4_0, .int .i64 a4_1, .int .i64 a4_2] 37 (0, 0))) ∧ Aside0 (w'.heap[gb250]? = some (.cells #[(.slice Ao40 t243.length co40), (.slice Ao43 t246.length co43)] 25 (0, 0))) ∧ Aside0 (w'.heap[gb258]? = some (.cells #[(.slice Ao48 t251.length co48), (.slice Ao52 t254.length co52)] 25 (0, 0))) ∧ Aside0 (Below w.heap.size w w'))
                      case atStart => exact ⟨(0), (by first | rfl | (simp; done) | (simp [*]; done)), H', ⟨Nat.le_refl _⟩, ⟨by (with_reducible repeat (first | apply Kd.R_alloc | apply Kd.R_drewN | apply Kd.R_drew)); exact HO_251000.out⟩, ⟨by (with_reducible repeat (first | apply Kd.R_alloc | apply Kd.R_drewN | apply Kd.R_drew)); exact HO_251001.out⟩, ⟨by (with_reducible repeat (first | apply Kd.R_alloc | apply Kd.R_drewN | apply Kd.R_drew)); exact HO_259000.out⟩, ⟨by (with_reducible repeat (first | apply Kd.R_alloc | apply Kd.R_drewN | apply Kd.R_drew)); exact HO_259001.out⟩, ⟨by (with_reducible repeat (first | refine blk_drewN ?_ _ | refine blk_drew ?_ | refine blk_alloc ?_ _)); exact BK224.out⟩, ⟨by (with_reducible repeat (first | refine blk_drewN ?_ _ | refine blk_drew ?_ | refine blk_alloc ?_ _)); exact BK250.out⟩, ⟨by (with_reducible repeat (first | refine blk_drewN ?_ _ | refine blk_drew ?_ | refine blk_alloc ?_ _)); exact BK258.out⟩, ⟨by repeat (first | (with_reducible first | exact HB.out | apply below_alloc | apply pw_below_drewN | apply below_drew1 | refine below_set ?_ GE224.out | refine below_set ?_ GE250.out | refine below_set ?_ GE258.out) | exact HB.out)⟩⟩
                      case round =>
                        clear H'
                        try clear c1
                        try clear c2
                        try clear p2
                        try clear q2
                        try clear hx2
                        try clear c4
                        try clear c5
                        try clear c6
                        try clear p6
                        try clear c7
                        try clear c8
                        try clear c9
                        try clear c11
                        try clear c11b0
                        try clear c11b1
                        try clear c12
                        try clear c12b0
                        try clear c12b1
                        try clear c12b2
                        try clear c13
                        try clear c13b0
                        try clear c13b1
                        try clear c13b2
                        try clear c14
                        try clear c14b0
                        try clear c15
                        try clear c15b0
                        try clear c17
                        try clear c18
                        try clear c18b0
                        try clear c19
                        try clear c19b0
                        try clear c21
                        try clear p22
                        try clear q22
                        try clear hx22
                        try clear p23
                        try clear q23
                        try clear hx23
                        try clear c25
                        try clear c41
                        try clear c49
                        try clear c50
                        try clear c53
                        try clear c53b0
                        try clear c53b1
                        try clear c54
                        try clear c54b0
                        try clear c54b1
                        try clear c55
                        try clear c55b0
                        try clear c55b1
                        try clear c55b2
                        try clear c56
                        try clear c57
                        try clear c59
                        try clear c61
                        try clear c62
                        try clear c64
                        try clear p64
                        try clear hcz16_0
                        try clear hcz16_1
                        try clear hcz16_2
                        try clear hcz36_0
                        try clear hcz36_1
                        try clear hcz36_2
                        try clear hcz42_0
                        try clear hcz42_1
                        try clear hcz44_0
                        try clear hcz44_1
                        try clear hcz44_2
                        try clear hcz51_0
                        try clear hcz51_1
                        try clear hcz58_0
                        try clear hcz58_1
                        try clear hcz60_0
                        try clear hcz60_1
                        try clear hcz63_0
                        try clear hcz63_1
                        try clear hfz16_0
                        try clear hfz16_1
                        try clear hfz16_2
                        try clear hfz36_0
                        try clear hfz36_1
                        try clear hfz36_2
                        try clear hfz42_0
                        try clear hfz42_1
                        try clear hfz44_0
                        try clear hfz44_1
                        try clear hfz44_2
                        try clear hfz51_0
                        try clear hfz51_1
                        try clear hfz58_0
                        try clear hfz58_1
                        try clear hfz60_0
                        try clear hfz60_1
                        try clear hfz63_0
                        try clear hfz63_1
                        try clear hx226_0
                        try clear hx232_0
                        try clear hx235_0
                        try clear p2
                        try clear p22
                        try clear p226
                        try clear p23
                        try clear p232
                        try clear p235
                        try clear p6
                        try clear q2
                        try clear q22
                        try clear q226
                        try clear q23
                        try clear q232
                        try clear q235
                        obtain ⟨x18_4, rfl, HA, HK4, HO_251000, HO_251001, HO_259000, HO_259001, BK224, BK250, BK258, HB⟩ := hrel
                        cases gk with
                        | zero => exact absurd HA.out (by simp [carousellaw15_OptMeans.l1])
                        | succ k4 =>
                          have H := HA.out
                          clear HA
                          simp only [carousellaw15_OptMeans.l1] at H
                          by_cases c65 : x18_4 < (l0.length : Int)
                          · rw [if_pos c65] at H
                            have c65b0 : decide (x18_4 < (l0.length : Int)) = true := decide_eq_true c65
                            clear c65
                            by_cases c66 : 0 ≤ x18_4
                            · rw [if_pos c66] at H
                              have c66b0 : decide (0 ≤ x18_4) = true := decide_eq_true c66
                              clear c66
                              by_cases c67 : x18_4 < (t243.length : Int)
                              · rw [if_pos c67] at H
                                have c67b0 : decide (x18_4 < (t243.length : Int)) = true := decide_eq_true c67
                                clear c67
                                by_cases c68 : x18_4 < (t251.length : Int)
                                · rw [if_pos c68] at H
                                  have c68b0 : decide (x18_4 < (t251.length : Int)) = true := decide_eq_true c68
                                  clear c68
                                  by_cases c69 : (rd t243 x18_4) = (rd t251 x18_4)
                                  · rw [if_pos c69] at H
                                    have c69b0 : ((rd t243 x18_4) == (rd t251 x18_4)) = true := beq_iff_eq.mpr c69
                                    have c69b1 : ((rd t243 x18_4) != (rd t251 x18_4)) = false := bne_eq_false_iff_eq.mpr c69
                                    clear c69
                                    by_cases c70 : x18_4 < (t246.length : Int)
                                    · rw [if_pos c70] at H
                                      have c70b0 : decide (x18_4 < (t246.length : Int)) = true := decide_eq_true c70
                                      clear c70
                                      by_cases c71 : x18_4 < (t254.length : Int)
                                      · rw [if_pos c71] at H
                                        have c71b0 : decide (x18_4 < (t254.length : Int)) = true := decide_eq_true c71
                                        clear c71
                                        by_cases c72 : (rd t246 x18_4) = (rd t254 x18_4)
                                        · rw [if_pos c72] at H
                                          have c72b0 : ((rd t246 x18_4) == (rd t254 x18_4)) = true := beq_iff_eq.mpr c72
                                          have c72b1 : ((rd t246 x18_4) != (rd t254 x18_4)) = false := bne_eq_false_iff_eq.mpr c72
                                          clear c72
                                          have H' := Aside0.mk H
                                          clear H
                                          try go_wp2
                                          have n0_ := Aside0.mk (Kd.R_drew HO_251000.out)
                                          have n1_ := Aside0.mk (Kd.R_drew HO_251001.out)
                                          have n2_ := Aside0.mk (Kd.R_drew HO_259000.out)
                                          have n3_ := Aside0.mk (Kd.R_drew HO_259001.out)
                                          have n4_ := Aside0.mk (blk_drew BK224.out)
                                          have n5_ := Aside0.mk (blk_drew BK250.out)
                                          have n6_ := Aside0.mk (blk_drew BK258.out)
                                          have n7_ := Aside0.mk (below_drew1 HB.out)
                                          clear HO_251000
                                          clear HO_251001
                                          clear HO_259000
                                          clear HO_259001
                                          clear BK224
                                          clear BK250
                                          clear BK258
                                          clear HB
                                          have HO_251000 := n0_
                                          have HO_251001 := n1_
                                          have HO_259000 := n2_
                                          have HO_259001 := n3_
                                          have BK224 := n4_
                                          have BK250 := n5_
                                          have BK258 := n6_
                                          have HB := n7_
                                          clear n0_ n1_ n2_ n3_ n4_ n5_ n6_ n7_
                                          have p259 : 0 ≤ (x18_4 : Int) := of_decide_eq_true (by first | (with_reducible assumption) | assumption)
                                          have q259 : x18_4 < (t243.length : Int) := of_decide_eq_true (by first | (with_reducible assumption) | assumption)
                                          obtain ⟨ad259, e259, hx259_0⟩ := Kd.at_int (Kd.R_reads' HO_251000.out).2.2 x18_4 p259 q259
                                          cases e259
                                          replace p259 := eq_true p259
                                          replace q259 := eq_true q259
                                          have p260 : 0 ≤ (x18_4 : Int) := of_decide_eq_true (by first | (with_reducible assumption) | assumption)
                                          have q260 : x18_4 < (t251.length : Int) := of_decide_eq_true (by first | (with_reducible assumption) | assumption)
                                          obtain ⟨ad260, e260, hx260_0⟩ := Kd.at_int (Kd.R_reads' HO_259000.out).2.2 x18_4 p260 q260
                                          cases e260
                                          replace p260 := eq_true p260
                                          replace q260 := eq_true q260
                                          have p261 : 0 ≤ (x18_4 : Int) := of_decide_eq_true (by first | (with_reducible assumption) | assumption)
                                          have q261 : x18_4 < (t246.length : Int) := of_decide_eq_true (by first | (with_reducible assumption) | assumption)
                                          obtain ⟨ad261, e261, hx261_0⟩ := Kd.at_int (Kd.R_reads' HO_251001.out).2.2 x18_4 p261 q261
                                          cases e261
                                          replace p261 := eq_true p261
                                          replace q261 := eq_true q261
                                          have p262 : 0 ≤ (x18_4 : Int) := of_decide_eq_true (by first | (with_reducible assumption) | assumption)
                                          have q262 : x18_4 < (t254.length : Int) := of_decide_eq_true (by first | (with_reducible assumption) | assumption)
                                          obtain ⟨ad262, e262, hx262_0⟩ := Kd.at_int (Kd.R_reads' HO_259001.out).2.2 x18_4 p262 q262
                                          cases e262
                                          replace p262 := eq_true p262
                                          replace q262 := eq_true q262
                                          refine start_ (n := 24) (S := fun w' => w'.cell? ⟨gb250, 0, none⟩ = some (.slice (some ad259) t243.length co40) ∧ w'.cell? ⟨gb250, 1, none⟩ = some (.slice (some ad261) t246.length co43) ∧ w'.cell? ⟨gb258, 0, none⟩ = some (.slice (some ad260) t251.length co48) ∧ w'.cell? ⟨gb258, 1, none⟩ = some (.slice (some ad262) t254.length co52) ∧ w'.cell? (ad259.add (x18_4).toNat) = some (.int .i64 (rd t243 x18_4)) ∧ w'.cell? (ad260.add (x18_4).toNat) = some (.int .i64 (rd t251 x18_4)) ∧ w'.cell? (ad261.add (x18_4).toNat) = some (.int .i64 (rd t246 x18_4)) ∧ w'.cell? (ad262.add (x18_4).toNat) = some (.int .i64 (rd t254 x18_4))) (ds := []) #[false, false, false, false, false, false, false, false, false, false, false, false, false, false, false, false, false, false, false, false, false, false, false, false] (by kernel_rfl) rfl rfl ⟨(blk_cell BK250.out 0).trans rfl, (blk_cell BK250.out 1).trans rfl, (blk_cell BK258.out 0).trans rfl, (blk_cell BK258.out 1).trans rfl, hx259_0, hx260_0, hx261_0, hx262_0⟩ (fun hHeld => ?_); refine with_tabW carousellaw15_OptMeans.tab18 carousellaw15_OptMeans.bits18 (fun HT_ HW_ => ?_)
                                          generalize wr.drew = w73 at HO_251000 HO_251001 HO_259000 HO_259001 BK224 BK250 BK258 HB hx259_0 hx260_0 hx261_0 hx262_0 hHeld ⊢
                                          refine pure_ (i := 0) (N := some 128) (v := ?_) (a' := ?_) #[true, false, false, false, false, false, false, false, false, false, false, false, false, false, false, false, false, false, false, false, false, false, false, false] rfl rfl (any_of HT_.out (by kernel_rfl)) (fun _ _ _ h => h) (Or.inl ⟨by rfl, ?_⟩) ?_ ?_
                                          rotate_left
                                          · intro w'
                                            go_simp
                                            with_reducible rfl
                                          rotate_left
                                          · simp only [Act.put, List.setIfInBounds_toArray, List.set_cons_zero, List.set_cons_succ, i64_w, i32_w]
                                            rfl
                                          refine pure_ (i := 2) (N := some 130) (v := ?_) (a' := ?_) #[true, false, true, false, false, false, false, false, false, false, false, false, false, false, false, false, false, false, false, false, false, false, false, false] rfl rfl (any_of HT_.out (by kernel_rfl)) (fun _ _ _ h => h) (Or.inl ⟨by rfl, ?_⟩) ?_ ?_
                                          rotate_left
                                          · intro w'
                                            go_simp
                                            with_reducible rfl
                                          rotate_left
                                          · simp only [Act.put, List.setIfInBounds_toArray, List.set_cons_zero, List.set_cons_succ, i64_w, i32_w]
                                            rfl
                                          refine pure_ (i := 5) (N := some 133) (v := ?_) (a' := ?_) #[true, false, true, false, false, true, false, false, false, false, false, false, false, false, false, false, false, false, false, false, false, false, false, false] rfl rfl (any_of HT_.out (by kernel_rfl)) (fun _ _ _ h => h) (Or.inl ⟨by rfl, ?_⟩) ?_ ?_
                                          rotate_left
                                          · intro w'
                                            go_simp
                                            with_reducible rfl
                                          rotate_left
                                          · simp only [Act.put, List.setIfInBounds_toArray, List.set_cons_zero, List.set_cons_succ, i64_w, i32_w]
                                            rfl
                                          refine pure_ (i := 7) (N := some 135) (v := ?_) (a' := ?_) #[true, false, true, false, false, true, false, true, false, false, false, false, false, false, false, false, false, false, false, false, false, false, false, false] rfl rfl (any_of HT_.out (by kernel_rfl)) (fun _ _ _ h => h) (Or.inl ⟨by rfl, ?_⟩) ?_ ?_
                                          rotate_left
                                          · intro w'
                                            go_simp
                                            with_reducible rfl
                                          rotate_left
                                          · simp only [Act.put, List.setIfInBounds_toArray, List.set_cons_zero, List.set_cons_succ, i64_w, i32_w]
                                            rfl
                                          refine take_ (i := 1) (N := some 129) (v := ?_) (a' := ?_) #[true, true, true, false, false, true, false, true, false, false, false, false, false, false, false, false, false, false, false, false, false, false, false, false] rfl rfl (take_ofW HT_.out HW_.out (by kernel_rfl)) (fun _ _ _ h => h) (Or.inl ⟨by rfl, ?_⟩) hHeld ?_ ?_
                                          rotate_left
                                          · rintro w' ⟨s0, s1, s2, s3, s4, s5, s6, s7⟩
                                            go_simp
                                            with_reducible rfl
                                          rotate_left
                                          · simp only [Act.put, List.setIfInBounds_toArray, List.set_cons_zero, List.set_cons_succ, i64_w, i32_w]
                                            rfl
                                          refine pure_ (i := 3) (N := some 131) (v := ?_) (a' := ?_) #[true, true, true, true, false, true, false, true, false, false, false, false, false, false, false, false, false, false, false, false, false, false, false, false] rfl rfl (any_of HT_.out (by kernel_rfl)) (fun _ _ _ h => h) (Or.inl ⟨by rfl, ?_⟩) ?_ ?_
                                          rotate_left
                                          · intro w'
                                            go_simp
                                            with_reducible rfl
                                          rotate_left
                                          · simp only [Act.put, List.setIfInBounds_toArray, List.set_cons_zero, List.set_cons_succ, i64_w, i32_w]
                                            rfl
                                          refine take_ (i := 4) (N := some 132) (v := ?_) (a' := ?_) #[true, true, true, true, true, true, false, true, false, false, false, false, false, false, false, false, false, false, false, false, false, false, false, false] rfl rfl (take_ofW HT_.out HW_.out (by kernel_rfl)) (fun _ _ _ h => h) (Or.inl ⟨by rfl, ?_⟩) hHeld ?_ ?_
                                          rotate_left
                                          · rintro w' ⟨s0, s1, s2, s3, s4, s5, s6, s7⟩
                                            go_simp
                                            with_reducible rfl
                                          rotate_left
                                          · simp only [Act.put, List.setIfInBounds_toArray, List.set_cons_zero, List.set_cons_succ, i64_w, i32_w]
                                            rfl
                                          refine take_ (i := 6) (N := some 134) (v := ?_) (a' := ?_) #[true, true, true, true, true, true, true, true, false, false, false, false, false, false, false, false, false, false, false, false, false, false, false, false] rfl rfl (take_ofW HT_.out HW_.out (by kernel_rfl)) (fun _ _ _ h => h) (Or.inl ⟨by rfl, ?_⟩) hHeld ?_ ?_
                                          rotate_left
                                          · rintro w' ⟨s0, s1, s2, s3, s4, s5, s6, s7⟩
                                            go_simp
                                            with_reducible rfl
                                          rotate_left
                                          · simp only [Act.put, List.setIfInBounds_toArray, List.set_cons_zero, List.set_cons_succ, i64_w, i32_w]
                                            rfl
                                          refine pure_ (i := 8) (N := some 136) (v := ?_) (a' := ?_) #[true, true, true, true, true, true, true, true, true, false, false, false, false, false, false, false, false, false, false, false, false, false, false, false] rfl rfl (any_of HT_.out (by kernel_rfl)) (fun _ _ _ h => h) (Or.inl ⟨by rfl, ?_⟩) ?_ ?_
                                          rotate_left
                                          · intro w'
                                            go_simp
                                            with_reducible rfl
                                          rotate_left
                                          · simp only [Act.put, List.setIfInBounds_toArray, List.set_cons_zero, List.set_cons_succ, i64_w, i32_w]
                                            rfl
                                          refine take_ (i := 9) (N := some 137) (v := ?_) (a' := ?_) #[true, true, true, true, true, true, true, true, true, true, false, false, false, false, false, false, false, false, false, false, false, false, false, false] rfl rfl (take_ofW HT_.out HW_.out (by kernel_rfl)) (fun _ _ _ h => h) (Or.inl ⟨by rfl, ?_⟩) hHeld ?_ ?_
                                          rotate_left
                                          · rintro w' ⟨s0, s1, s2, s3, s4, s5, s6, s7⟩
                                            go_simp
                                            with_reducible rfl
                                          rotate_left
                                          · simp only [Act.put, List.setIfInBounds_toArray, List.set_cons_zero, List.set_cons_succ, i64_w, i32_w]
                                            rfl
                                          refine pure_ (i := 10) (N := some 138) (v := ?_) (a' := ?_) #[true, true, true, true, true, true, true, true, true, true, true, false, false, false, false, false, false, false, false, false, false, false, false, false] rfl rfl (any_of HT_.out (by kernel_rfl)) (fun _ _ _ h => h) (Or.inl ⟨by rfl, ?_⟩) ?_ ?_
                                          rotate_left
                                          · intro w'
                                            go_simp
                                            with_reducible rfl
                                          rotate_left
                                          · simp only [Act.put, List.setIfInBounds_toArray, List.set_cons_zero, List.set_cons_succ, i64_w, i32_w]
                                            rfl
                                          refine pure_ (i := 11) (N := some 139) (v := ?_) (a' := ?_) #[true, true, true, true, true, true, true, true, true, true, true, true, false, false, false, false, false, false, false, false, false, false, false, false] rfl rfl (any_of HT_.out (by kernel_rfl)) (fun _ _ _ h => h) (Or.inl ⟨by rfl, ?_⟩) ?_ ?_
                                          rotate_left
                                          · intro w'
                                            go_simp
                                            with_reducible rfl
                                          rotate_left
                                          · simp only [Act.put, List.setIfInBounds_toArray, List.set_cons_zero, List.set_cons_succ, i64_w, i32_w]
                                            rfl
                                          refine pure_ (i := 12) (N := some 140) (v := ?_) (a' := ?_) #[true, true, true, true, true, true, true, true, true, true, true, true, true, false, false, false, false, false, false, false, false, false, false, false] rfl rfl (any_of HT_.out (by kernel_rfl)) (fun _ _ _ h => h) (Or.inl ⟨by rfl, ?_⟩) ?_ ?_
                                          rotate_left
                                          · intro w'
                                            go_simp
                                            with_reducible rfl
                                          rotate_left
                                          · simp only [Act.put, List.setIfInBounds_toArray, List.set_cons_zero, List.set_cons_succ, i64_w, i32_w]
                                            rfl
                                          refine pure_ (i := 14) (N := some 142) (v := ?_) (a' := ?_) #[true, true, true, true, true, true, true, true, true, true, true, true, true, false, true, false, false, false, false, false, false, false, false, false] rfl rfl (any_of HT_.out (by kernel_rfl)) (fun _ _ _ h => h) (Or.inl ⟨by rfl, ?_⟩) ?_ ?_
                                          rotate_left
                                          · intro w'
                                            go_simp
                                            with_reducible rfl
                                          rotate_left
                                          · simp only [Act.put, List.setIfInBounds_toArray, List.set_cons_zero, List.set_cons_succ, i64_w, i32_w]
                                            rfl
                                          refine pure_ (i := 17) (N := some 145) (v := ?_) (a' := ?_) #[true, true, true, true, true, true, true, true, true, true, true, true, true, false, true, false, false, true, false, false, false, false, false, false] rfl rfl (any_of HT_.out (by kernel_rfl)) (fun _ _ _ h => h) (Or.inl ⟨by rfl, ?_⟩) ?_ ?_
                                          rotate_left
                                          · intro w'
                                            go_simp
                                            with_reducible rfl
                                          rotate_left
                                          · simp only [Act.put, List.setIfInBounds_toArray, List.set_cons_zero, List.set_cons_succ, i64_w, i32_w]
                                            rfl
                                          refine pure_ (i := 19) (N := some 147) (v := ?_) (a' := ?_) #[true, true, true, true, true, true, true, true, true, true, true, true, true, false, true, false, false, true, false, true, false, false, false, false] rfl rfl (any_of HT_.out (by kernel_rfl)) (fun _ _ _ h => h) (Or.inl ⟨by rfl, ?_⟩) ?_ ?_
                                          rotate_left
                                          · intro w'
                                            go_simp
                                            with_reducible rfl
                                          rotate_left
                                          · simp only [Act.put, List.setIfInBounds_toArray, List.set_cons_zero, List.set_cons_succ, i64_w, i32_w]
                                            rfl
                                          refine take_ (i := 13) (N := some 141) (v := ?_) (a' := ?_) #[true, true, true, true, true, true, true, true, true, true, true, true, true, true, true, false, false, true, false, true, false, false, false, false] rfl rfl (take_ofW HT_.out HW_.out (by kernel_rfl)) (fun _ _ _ h => h) (Or.inl ⟨by rfl, ?_⟩) hHeld ?_ ?_
                                          rotate_left
                                          · rintro w' ⟨s0, s1, s2, s3, s4, s5, s6, s7⟩
                                            go_simp
                                            with_reducible rfl
                                          rotate_left
                                          · simp only [Act.put, List.setIfInBounds_toArray, List.set_cons_zero, List.set_cons_succ, i64_w, i32_w]
                                            rfl
                                          refine pure_ (i := 15) (N := some 143) (v := ?_) (a' := ?_) #[true, true, true, true, true, true, true, true, true, true, true, true, true, true, true, true, false, true, false, true, false, false, false, false] rfl rfl (any_of HT_.out (by kernel_rfl)) (fun _ _ _ h => h) (Or.inl ⟨by rfl, ?_⟩) ?_ ?_
                                          rotate_left
                                          · intro w'
                                            go_simp
                                            with_reducible rfl
                                          rotate_left
                                          · simp only [Act.put, List.setIfInBounds_toArray, List.set_cons_zero, List.set_cons_succ, i64_w, i32_w]
                                            rfl
                                          refine take_ (i := 16) (N := some 144) (v := ?_) (a' := ?_) #[true, true, true, true, true, true, true, true, true, true, true, true, true, true, true, true, true, true, false, true, false, false, false, false] rfl rfl (take_ofW HT_.out HW_.out (by kernel_rfl)) (fun _ _ _ h => h) (Or.inl ⟨by rfl, ?_⟩) hHeld ?_ ?_
                                          rotate_left
                                          · rintro w' ⟨s0, s1, s2, s3, s4, s5, s6, s7⟩
                                            go_simp
                                            with_reducible rfl
                                          rotate_left
                                          · simp only [Act.put, List.setIfInBounds_toArray, List.set_cons_zero, List.set_cons_succ, i64_w, i32_w]
                                            rfl
                                          refine take_ (i := 18) (N := some 146) (v := ?_) (a' := ?_) #[true, true, true, true, true, true, true, true, true, true, true, true, true, true, true, true, true, true, true, true, false, false, false, false] rfl rfl (take_ofW HT_.out HW_.out (by kernel_rfl)) (fun _ _ _ h => h) (Or.inl ⟨by rfl, ?_⟩) hHeld ?_ ?_
                                          rotate_left
                                          · rintro w' ⟨s0, s1, s2, s3, s4, s5, s6, s7⟩
                                            go_simp
                                            with_reducible rfl
                                          rotate_left
                                          · simp only [Act.put, List.setIfInBounds_toArray, List.set_cons_zero, List.set_cons_succ, i64_w, i32_w]
                                            rfl
                                          refine pure_ (i := 20) (N := some 148) (v := ?_) (a' := ?_) #[true, true, true, true, true, true, true, true, true, true, true, true, true, true, true, true, true, true, true, true, true, false, false, false] rfl rfl (any_of HT_.out (by kernel_rfl)) (fun _ _ _ h => h) (Or.inl ⟨by rfl, ?_⟩) ?_ ?_
                                          rotate_left
                                          · intro w'
                                            go_simp
                                            with_reducible rfl
                                          rotate_left
                                          · simp only [Act.put, List.setIfInBounds_toArray, List.set_cons_zero, List.set_cons_succ, i64_w, i32_w]
                                            rfl
                                          refine take_ (i := 21) (N := some 149) (v := ?_) (a' := ?_) #[true, true, true, true, true, true, true, true, true, true, true, true, true, true, true, true, true, true, true, true, true, true, false, false] rfl rfl (take_ofW HT_.out HW_.out (by kernel_rfl)) (fun _ _ _ h => h) (Or.inl ⟨by rfl, ?_⟩) hHeld ?_ ?_
                                          rotate_left
                                          · rintro w' ⟨s0, s1, s2, s3, s4, s5, s6, s7⟩
                                            go_simp
                                            with_reducible rfl
                                          rotate_left
                                          · simp only [Act.put, List.setIfInBounds_toArray, List.set_cons_zero, List.set_cons_succ, i64_w, i32_w]
                                            rfl
                                          refine pure_ (i := 22) (N := some 150) (v := ?_) (a' := ?_) #[true, true, true, true, true, true, true, true, true, true, true, true, true, true, true, true, true, true, true, true, true, true, true, false] rfl rfl (any_of HT_.out (by kernel_rfl)) (fun _ _ _ h => h) (Or.inl ⟨by rfl, ?_⟩) ?_ ?_
                                          rotate_left
                                          · intro w'
                                            go_simp
                                            with_reducible rfl
                                          rotate_left
                                          · simp only [Act.put, List.setIfInBounds_toArray, List.set_cons_zero, List.set_cons_succ, i64_w, i32_w]
                                            rfl
                                          refine pure_ (i := 23) (N := some 151) (v := ?_) (a' := ?_) #[true, true, true, true, true, true, true, true, true, true, true, true, true, true, true, true, true, true, true, true, true, true, true, true] rfl rfl (any_of HT_.out (by kernel_rfl)) (fun _ _ _ h => h) (Or.inl ⟨by rfl, ?_⟩) ?_ ?_
                                          rotate_left
                                          · intro w'
                                            go_simp
                                            with_reducible rfl
                                          rotate_left
                                          · simp only [Act.put, List.setIfInBounds_toArray, List.set_cons_zero, List.set_cons_succ, i64_w, i32_w]
                                            rfl
                                          refine done_ (done_of HT_.out (by kernel_rfl)) ?_
                                          try go_wp2
                                          go_roundg k4
                                          case measure => have := HJ7.out; have := HK2.out; have := HJ34.out; have := HK4.out; omega
                                          case rel => exact ⟨(wrap64 (x18_4 + 1)), (by first | rfl | (simp; done) | (simp [*]; done)), H', ⟨by have := HJ7.out; have := HK2.out; have := HJ34.out; have := HK4.out; omega⟩, ⟨by (with_reducible repeat (first | apply Kd.R_alloc | apply Kd.R_drewN | apply Kd.R_drew)); exact HO_251000.out⟩, ⟨by (with_reducible repeat (first | apply Kd.R_alloc | apply Kd.R_drewN | apply Kd.R_drew)); exact HO_251001.out⟩, ⟨by (with_reducible repeat (first | apply Kd.R_alloc | apply Kd.R_drewN | apply Kd.R_drew)); exact HO_259000.out⟩, ⟨by (with_reducible repeat (first | apply Kd.R_alloc | apply Kd.R_drewN | apply Kd.R_drew)); exact HO_259001.out⟩, ⟨by (with_reducible repeat (first | refine blk_drewN ?_ _ | refine blk_drew ?_ | refine blk_alloc ?_ _)); exact BK224.out⟩, ⟨by (with_reducible repeat (first | refine blk_drewN ?_ _ | refine blk_drew ?_ | refine blk_alloc ?_ _)); exact BK250.out⟩, ⟨by (with_reducible repeat (first | refine blk_drewN ?_ _ | refine blk_drew ?_ | refine blk_alloc ?_ _)); exact BK258.out⟩, ⟨by repeat (first | (with_reducible first | exact HB.out | apply below_alloc | apply pw_below_drewN | apply below_drew1 | refine below_set ?_ GE224.out | refine below_set ?_ GE250.out | refine below_set ?_ GE258.out) | exact HB.out)⟩⟩
                                        · rw [if_neg c72] at H
                                          exact absurd H (by simp)
                                      · rw [if_neg c71] at H
                                        exact absurd H (by simp)
                                    · rw [if_neg c70] at H
                                      exact absurd H (by simp)
                                  · rw [if_neg c69] at H
                                    have c69b0 : ((rd t243 x18_4) == (rd t251 x18_4)) = false := beq_eq_false_iff_ne.mpr c69
                                    have c69b1 : ((rd t243 x18_4) != (rd t251 x18_4)) = true := bne_iff_ne.mpr c69
                                    exact absurd H (by simp)
                                · rw [if_neg c68] at H
                                  exact absurd H (by simp)
                              · rw [if_neg c67] at H
                                exact absurd H (by simp)
                            · rw [if_neg c66] at H
                              exact absurd H (by simp)
                          · rw [if_neg c65] at H
                            have c65b0 : decide (x18_4 < (l0.length : Int)) = false := decide_eq_false c65
                            clear c65
                            obtain rfl := Option.some.inj H
                            go_wp2
                            go_ret
                            exact ⟨by first | rfl | (simp [errW_none, errW_some] <;> rfl) | (simp [*, errW_none, errW_some] <;> rfl), by repeat (first | (with_reducible first | exact HB.out | apply below_alloc | apply pw_below_drewN | apply below_drew1 | refine below_set ?_ GE224.out | refine below_set ?_ GE250.out | refine below_set ?_ GE258.out) | exact HB.out)⟩
  · replace c7 := Bool.eq_false_iff.mpr c7
    subst c7
    have H1 : (none) = some r := by rw [if_neg (show ¬ (false = true) by decide)] at H; exact H
    clear H
    have H := H1
    clear H1
    exact absurd H (by simp)

/-- THE ONE PURE STATEMENT of carousellaw15_OptMeans. -/
def carousellaw15_OptMeans.Pure : Prop := ∀ (l0 : List Int) (l1 : List Int) (l2 : List Int) (a3 : Int) (a4_0 : Int) (a4_1 : Int) (a4_2 : Int), l0.length ≤ maxLen → (∀ x ∈ l0, (Lit.int .i64 x).wf = true) → l1.length ≤ maxLen → (∀ x ∈ l1, (Lit.int .i64 x).wf = true) → l2.length ≤ maxLen → (∀ x ∈ l2, (Lit.int .i64 x).wf = true) → (Lit.int .i64 a3).wf = true → (Lit.int .i64 a4_0).wf = true → (Lit.int .i64 a4_1).wf = true → (Lit.int .i64 a4_2).wf = true → ∃ k, carousellaw15_OptMeans.f k l0 l1 l2 a3 a4_0 a4_1 a4_2 = some true

end Go.Proofs.Ytaanhfcioemekaa.POptMeans
