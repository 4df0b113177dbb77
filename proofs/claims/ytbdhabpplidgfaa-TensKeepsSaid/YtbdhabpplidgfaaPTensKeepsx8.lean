/- The functions that the law TensKeeps reaches, as Lean functions, and that each call of the Go function does what its Lean function says, wherever that one answers. Written by a program of mine over the print of the kit; Lean checks it. -/
import Derived.Test.YtbdhabpplidgfaaPTensKeepsx0
import Derived.Test.YtbdhabpplidgfaaPTensKeepsx2
import Derived.Test.YtbdhabpplidgfaaPTensKeepsx5
import Derived.Test.YtbdhabpplidgfaaPTensKeepsx6
import Derived.Test.YtbdhabpplidgfaaPTensKeepsx7
namespace Go.Proofs.Ytbdhabpplidgfaa.PTensKeeps
open Go.RowKit Go.Proofs.YtbdhabpplidgfaaW.PrintWords Go.Proofs.YtbdhabpplidgfaaW.PrintLast Go.Proofs.YtbdhabpplidgfaaW.PrintMore
attribute [local go_sem] max2_int min2_int max_two min_two max_three min_three max_four min_four   -- for this text's walks alone
set_option linter.unusedVariables false
set_option linter.unusedSimpArgs false

/-! ### carousellaw6_TensKeeps: function 4 -/
mutual
def carousellaw6_TensKeeps.j0 : Nat → Bool → List Int → List Int → List Int → List Int → Option (Bool)
 | 0, _, _, _, _, _ => none
 | k + 1, x30, x285000, x285001, x286000, x286001 => if x30 = true then (some true) else ((some (([] : List Int) : List Int)).bind fun y291 => (if y291.length + x285000.length < 17592186044416 then ((some (y291 ++ x285000 : List Int)).bind fun y294 => ((some (([] : List Int) : List Int)).bind fun y297 => (if y297.length + x285001.length < 17592186044416 then ((some (y297 ++ x285001 : List Int)).bind fun y300 => ((some (([] : List Int) : List Int)).bind fun y304 => (if y304.length + x286000.length < 17592186044416 then ((some (y304 ++ x286000 : List Int)).bind fun y307 => ((some (([] : List Int) : List Int)).bind fun y310 => (if y310.length + x286001.length < 17592186044416 then ((some (y310 ++ x286001 : List Int)).bind fun y313 => ((tens_Add.f k y294 y300 y307 y313).bind fun bt317 => ((tens_Reshape.f k y294 y300 y294).bind fun bt325 => (if bt317.2.2 = 0 then (carousellaw6_TensKeeps.l0 k 0 x285000 x285001 x286000 x286001 y294 y300 y307 y313 bt317.1 bt317.2.1 bt325.1 bt325.2.1) else (carousellaw6_TensKeeps.j2 k x285000 x285001 x286000 x286001 y294 y300 y307 y313 bt325.1 bt325.2.1))))) else (none)))) else (none)))) else (none)))) else (none)))
def carousellaw6_TensKeeps.j2 : Nat → List Int → List Int → List Int → List Int → List Int → List Int → List Int → List Int → List Int → List Int → Option (Bool)
 | 0, _, _, _, _, _, _, _, _, _, _ => none
 | k + 1, x285000, x285001, x286000, x286001, x304000, x304001, x317000, x317001, x333000, x333001 => carousellaw6_TensKeeps.l1 k 0 x285000 x285001 x286000 x286001 x304000 x304001 x317000 x317001 x333000 x333001
def carousellaw6_TensKeeps.l1 : Nat → Int → List Int → List Int → List Int → List Int → List Int → List Int → List Int → List Int → List Int → List Int → Option (Bool)
 | 0, _, _, _, _, _, _, _, _, _, _, _ => none
 | k + 1, x12, x285000, x285001, x286000, x286001, x304000, x304001, x317000, x317001, x333000, x333001 => if x12 < (x333001.length : Int) then (if 0 ≤ x12 then (carousellaw6_TensKeeps.l1 k (wrap64 (x12 + 1)) x285000 x285001 x286000 x286001 x304000 x304001 x317000 x317001 x333000 (x333001.set (x12 : Int).toNat 7)) else (none)) else ((tens_Same.f k x304000 x304001 x285000 x285001).bind fun t335 => (if t335 = true then ((tens_Same.f k x317000 x317001 x286000 x286001).bind fun t336 => (some t336)) else (none)))
def carousellaw6_TensKeeps.l0 : Nat → Int → List Int → List Int → List Int → List Int → List Int → List Int → List Int → List Int → List Int → List Int → List Int → List Int → Option (Bool)
 | 0, _, _, _, _, _, _, _, _, _, _, _, _, _ => none
 | k + 1, x11, x285000, x285001, x286000, x286001, x304000, x304001, x317000, x317001, x325000, x325001, x333000, x333001 => if x11 < (x325001.length : Int) then (if 0 ≤ x11 then (carousellaw6_TensKeeps.l0 k (wrap64 (x11 + 1)) x285000 x285001 x286000 x286001 x304000 x304001 x317000 x317001 x325000 (x325001.set (x11 : Int).toNat 9) x333000 x333001) else (none)) else (carousellaw6_TensKeeps.j2 k x285000 x285001 x286000 x286001 x304000 x304001 x317000 x317001 x333000 x333001)
end
def carousellaw6_TensKeeps.f (k : Nat) (l0_0 : List Int) (l0_1 : List Int) (l1_0 : List Int) (l1_1 : List Int) : Option (Bool) := (carousellaw6_awake.f k).bind fun t286 => (if t286 = true then ((carousellaw6_great.f l0_0 l0_1 200).bind fun t287 => (if t287 = true then (carousellaw6_TensKeeps.j0 k true l0_0 l0_1 l1_0 l1_1) else ((carousellaw6_great.f l1_0 l1_1 200).bind fun t288 => (if t288 = true then (carousellaw6_TensKeeps.j0 k true l0_0 l0_1 l1_0 l1_1) else ((carouselref5_Is.f k l0_0 l0_1).bind fun t289 => (if t289 = true then ((carouselref5_Is.f k l1_0 l1_1).bind fun t290 => (carousellaw6_TensKeeps.j0 k (!t290) l0_0 l0_1 l1_0 l1_1)) else (carousellaw6_TensKeeps.j0 k true l0_0 l0_1 l1_0 l1_1))))))) else (none))
theorem carousellaw6_TensKeeps.mono_l : ∀ k, (∀ y0 y1 y2 y3 y4, LeO (carousellaw6_TensKeeps.j0 k y0 y1 y2 y3 y4) (carousellaw6_TensKeeps.j0 (k + 1) y0 y1 y2 y3 y4)) ∧ (∀ y0 y1 y2 y3 y4 y5 y6 y7 y8 y9, LeO (carousellaw6_TensKeeps.j2 k y0 y1 y2 y3 y4 y5 y6 y7 y8 y9) (carousellaw6_TensKeeps.j2 (k + 1) y0 y1 y2 y3 y4 y5 y6 y7 y8 y9)) ∧ (∀ y0 y1 y2 y3 y4 y5 y6 y7 y8 y9 y10, LeO (carousellaw6_TensKeeps.l1 k y0 y1 y2 y3 y4 y5 y6 y7 y8 y9 y10) (carousellaw6_TensKeeps.l1 (k + 1) y0 y1 y2 y3 y4 y5 y6 y7 y8 y9 y10)) ∧ (∀ y0 y1 y2 y3 y4 y5 y6 y7 y8 y9 y10 y11 y12, LeO (carousellaw6_TensKeeps.l0 k y0 y1 y2 y3 y4 y5 y6 y7 y8 y9 y10 y11 y12) (carousellaw6_TensKeeps.l0 (k + 1) y0 y1 y2 y3 y4 y5 y6 y7 y8 y9 y10 y11 y12))
 | 0 => ⟨fun _ _ _ _ _ r h => by simp [carousellaw6_TensKeeps.j0] at h, fun _ _ _ _ _ _ _ _ _ _ r h => by simp [carousellaw6_TensKeeps.j2] at h, fun _ _ _ _ _ _ _ _ _ _ _ r h => by simp [carousellaw6_TensKeeps.l1] at h, fun _ _ _ _ _ _ _ _ _ _ _ _ _ r h => by simp [carousellaw6_TensKeeps.l0] at h⟩
 | k + 1 => by
  obtain ⟨ih0, ih1, ih2, ih3⟩ := carousellaw6_TensKeeps.mono_l k
  refine ⟨?_, ?_, ?_, ?_⟩
  ·intro y0 y1 y2 y3 y4
   unfold carousellaw6_TensKeeps.j0
   repeat' first
   | (with_reducible exact ih0 _ _ _ _ _)
   | (with_reducible exact ih1 _ _ _ _ _ _ _ _ _ _)
   | (with_reducible exact ih2 _ _ _ _ _ _ _ _ _ _ _)
   | (with_reducible exact ih3 _ _ _ _ _ _ _ _ _ _ _ _ _)
   | (with_reducible exact tens_Add.mono _ _ _ _ _)
   | (with_reducible exact tens_Reshape.mono _ _ _ _)
   | (with_reducible exact LeO.refl _)
   | (with_reducible exact LeO.none _)
   | (with_reducible refine LeO.ite ?_ ?_)
   | (with_reducible refine LeO.bind ?_ (fun _ => ?_))
   | exact ih0 _ _ _ _ _
   | exact ih1 _ _ _ _ _ _ _ _ _ _
   | exact ih2 _ _ _ _ _ _ _ _ _ _ _
   | exact ih3 _ _ _ _ _ _ _ _ _ _ _ _ _
   | exact tens_Add.mono _ _ _ _ _
   | exact tens_Reshape.mono _ _ _ _
   | exact LeO.none _
   | refine LeO.ite ?_ ?_
   | refine LeO.bind ?_ (fun _ => ?_)
  ·intro y0 y1 y2 y3 y4 y5 y6 y7 y8 y9
   unfold carousellaw6_TensKeeps.j2
   repeat' first
   | (with_reducible exact ih0 _ _ _ _ _)
   | (with_reducible exact ih1 _ _ _ _ _ _ _ _ _ _)
   | (with_reducible exact ih2 _ _ _ _ _ _ _ _ _ _ _)
   | (with_reducible exact ih3 _ _ _ _ _ _ _ _ _ _ _ _ _)
   | (with_reducible exact LeO.refl _)
   | (with_reducible exact LeO.none _)
   | (with_reducible refine LeO.ite ?_ ?_)
   | (with_reducible refine LeO.bind ?_ (fun _ => ?_))
   | exact ih0 _ _ _ _ _
   | exact ih1 _ _ _ _ _ _ _ _ _ _
   | exact ih2 _ _ _ _ _ _ _ _ _ _ _
   | exact ih3 _ _ _ _ _ _ _ _ _ _ _ _ _
   | exact LeO.none _
   | refine LeO.ite ?_ ?_
   | refine LeO.bind ?_ (fun _ => ?_)
  ·intro y0 y1 y2 y3 y4 y5 y6 y7 y8 y9 y10
   unfold carousellaw6_TensKeeps.l1
   repeat' first
   | (with_reducible exact ih0 _ _ _ _ _)
   | (with_reducible exact ih1 _ _ _ _ _ _ _ _ _ _)
   | (with_reducible exact ih2 _ _ _ _ _ _ _ _ _ _ _)
   | (with_reducible exact ih3 _ _ _ _ _ _ _ _ _ _ _ _ _)
   | (with_reducible exact tens_Same.mono _ _ _ _ _)
   | (with_reducible exact LeO.refl _)
   | (with_reducible exact LeO.none _)
   | (with_reducible refine LeO.ite ?_ ?_)
   | (with_reducible refine LeO.bind ?_ (fun _ => ?_))
   | exact ih0 _ _ _ _ _
   | exact ih1 _ _ _ _ _ _ _ _ _ _
   | exact ih2 _ _ _ _ _ _ _ _ _ _ _
   | exact ih3 _ _ _ _ _ _ _ _ _ _ _ _ _
   | exact tens_Same.mono _ _ _ _ _
   | exact LeO.none _
   | refine LeO.ite ?_ ?_
   | refine LeO.bind ?_ (fun _ => ?_)
  ·intro y0 y1 y2 y3 y4 y5 y6 y7 y8 y9 y10 y11 y12
   unfold carousellaw6_TensKeeps.l0
   repeat' first
   | (with_reducible exact ih0 _ _ _ _ _)
   | (with_reducible exact ih1 _ _ _ _ _ _ _ _ _ _)
   | (with_reducible exact ih2 _ _ _ _ _ _ _ _ _ _ _)
   | (with_reducible exact ih3 _ _ _ _ _ _ _ _ _ _ _ _ _)
   | (with_reducible exact LeO.refl _)
   | (with_reducible exact LeO.none _)
   | (with_reducible refine LeO.ite ?_ ?_)
   | (with_reducible refine LeO.bind ?_ (fun _ => ?_))
   | exact ih0 _ _ _ _ _
   | exact ih1 _ _ _ _ _ _ _ _ _ _
   | exact ih2 _ _ _ _ _ _ _ _ _ _ _
   | exact ih3 _ _ _ _ _ _ _ _ _ _ _ _ _
   | exact LeO.none _
   | refine LeO.ite ?_ ?_
   | refine LeO.bind ?_ (fun _ => ?_)
theorem carousellaw6_TensKeeps.mono : ∀ a0 a1 a2 a3 k, LeO (carousellaw6_TensKeeps.f k a0 a1 a2 a3) (carousellaw6_TensKeeps.f (k + 1) a0 a1 a2 a3) := by
 intro a0 a1 a2 a3 k
 obtain ⟨ih0, ih1, ih2, ih3⟩ := carousellaw6_TensKeeps.mono_l k
 unfold carousellaw6_TensKeeps.f
 repeat' first
   | (with_reducible exact ih0 _ _ _ _ _)
   | (with_reducible exact ih1 _ _ _ _ _ _ _ _ _ _)
   | (with_reducible exact ih2 _ _ _ _ _ _ _ _ _ _ _)
   | (with_reducible exact ih3 _ _ _ _ _ _ _ _ _ _ _ _ _)
   | (with_reducible exact carousellaw6_awake.mono _)
   | (with_reducible exact carouselref5_Is.mono _ _ _)
   | (with_reducible exact LeO.refl _)
   | (with_reducible exact LeO.none _)
   | (with_reducible refine LeO.ite ?_ ?_)
   | (with_reducible refine LeO.bind ?_ (fun _ => ?_))
   | exact ih0 _ _ _ _ _
   | exact ih1 _ _ _ _ _ _ _ _ _ _
   | exact ih2 _ _ _ _ _ _ _ _ _ _ _
   | exact ih3 _ _ _ _ _ _ _ _ _ _ _ _ _
   | exact carousellaw6_awake.mono _
   | exact carouselref5_Is.mono _ _ _
   | exact LeO.none _
   | refine LeO.ite ?_ ?_
   | refine LeO.bind ?_ (fun _ => ?_)
def carousellaw6_TensKeeps.T5 : Bool × List (List Nat × List Nat) := (true, [([], []), ([], []), ([1], [1]), ([0, 2], [0, 2]), ([], []), ([], []), ([5], [5]), ([4, 6, 3], [4, 6]), ([3, 7], [3, 7]), ([], []), ([9, 8, 7, 0, 1, 2, 3, 4, 5, 6, 7, 8, 9], [8, 9])])
def carousellaw6_TensKeeps.B5 : List Nat := [0, 0, 2, 7, 0, 0, 32, 127, 255, 0, 1023]
theorem carousellaw6_TensKeeps.tab5 : rtab .any (opsOf Try.f4 5) = carousellaw6_TensKeeps.T5 := by kernel_rfl
theorem carousellaw6_TensKeeps.bits5 : waitsOk carousellaw6_TensKeeps.T5.2 carousellaw6_TensKeeps.B5 = true := by kernel_rfl
def carousellaw6_TensKeeps.T6 : Bool × List (List Nat × List Nat) := (true, [([], []), ([], []), ([1], [1]), ([0, 2], [0, 2]), ([], []), ([], []), ([5], [5]), ([4, 6, 3], [4, 6]), ([3, 7], [3, 7]), ([], []), ([9, 8, 7, 0, 1, 2, 3, 4, 5, 6, 7, 8, 9], [8, 9])])
def carousellaw6_TensKeeps.B6 : List Nat := [0, 0, 2, 7, 0, 0, 32, 127, 255, 0, 1023]
theorem carousellaw6_TensKeeps.tab6 : rtab .any (opsOf Try.f4 6) = carousellaw6_TensKeeps.T6 := by kernel_rfl
theorem carousellaw6_TensKeeps.bits6 : waitsOk carousellaw6_TensKeeps.T6.2 carousellaw6_TensKeeps.B6 = true := by kernel_rfl
set_option maxHeartbeats 8000000 in
set_option maxRecDepth 100000 in
theorem carousellaw6_TensKeeps.calls (k : Nat) (A0_0 : Option Addr) (c0_0 : Nat) (l0_0 : List Int) (A0_1 : Option Addr) (c0_1 : Nat) (l0_1 : List Int) (A1_0 : Option Addr) (c1_0 : Nat) (l1_0 : List Int) (A1_1 : Option Addr) (c1_1 : Nat) (l1_1 : List Int) (r : Bool) (w : World) (hr0_0 : Kd.C (Kd.int .i64) w A0_0 l0_0.length l0_0) (hc0_0 : l0_0.length ≤ c0_0) (hr0_1 : Kd.C (Kd.int .i64) w A0_1 l0_1.length l0_1) (hc0_1 : l0_1.length ≤ c0_1) (hr1_0 : Kd.C (Kd.int .i64) w A1_0 l1_0.length l1_0) (hc1_0 : l1_0.length ≤ c1_0) (hr1_1 : Kd.C (Kd.int .i64) w A1_1 l1_1.length l1_1) (hc1_1 : l1_1.length ≤ c1_1) (h : carousellaw6_TensKeeps.f k l0_0 l0_1 l1_0 l1_1 = some r) :
  Calls Try.prog 4 #[.agg #[.slice A0_0 l0_0.length c0_0, .slice A0_1 l0_1.length c0_1], .agg #[.slice A1_0 l1_0.length c1_0, .slice A1_1 l1_1.length c1_1]] w fun e w' => e = .returned (.bool r) ∧ Below w.heap.size w w' := by
 have hu27 := Try.underlying27
 have HR0_0 := Aside0.mk hr0_0
 have HC0_0 := Aside0.mk hc0_0
 clear hr0_0 hc0_0
 have HR0_1 := Aside0.mk hr0_1
 have HC0_1 := Aside0.mk hc0_1
 clear hr0_1 hc0_1
 have HR1_0 := Aside0.mk hr1_0
 have HC1_0 := Aside0.mk hc1_0
 clear hr1_0 hc1_0
 have HR1_1 := Aside0.mk hr1_1
 have HC1_1 := Aside0.mk hc1_1
 clear hr1_1 hc1_1
 have HB := Aside0.mk (Below.refl w.heap.size w)
 have H : ((carousellaw6_awake.f k).bind fun t286 => (if t286 = true then ((carousellaw6_great.f l0_0 l0_1 200).bind fun t287 => (if t287 = true then (carousellaw6_TensKeeps.j0 k true l0_0 l0_1 l1_0 l1_1) else ((carousellaw6_great.f l1_0 l1_1 200).bind fun t288 => (if t288 = true then (carousellaw6_TensKeeps.j0 k true l0_0 l0_1 l1_0 l1_1) else ((carouselref5_Is.f k l0_0 l0_1).bind fun t289 => (if t289 = true then ((carouselref5_Is.f k l1_0 l1_1).bind fun t290 => (carousellaw6_TensKeeps.j0 k (!t290) l0_0 l0_1 l1_0 l1_1)) else (carousellaw6_TensKeeps.j0 k true l0_0 l0_1 l1_0 l1_1))))))) else (none))) = some r := h
 clear h
 replace H := Option.bind_eq_some_iff.mp H
 obtain ⟨t286, A30, H⟩ := H
 (try dsimp only at H)
 have A3 := Aside0.mk A30
 clear A30
 by_cases c4 : t286 = true
 ·subst c4
  have H1 := H
  rw [if_pos rfl] at H1
  clear H
  have H := H1
  clear H1
  have HC5 := Aside0.mk H
  clear H
  go_enter Try.func4, Try.ntmps4
  go_upto_region 3 with (first | ((with_reducible refine gate_dst (N := 2) rfl ?_); refine box_event ?hg (N := 2) ?hd (cs := #[.slice A0_0 l0_0.length c0_0, .slice A0_1 l0_1.length c0_1]) (t := 27) ?hr ?_; (case hd => rfl); (case hg => rfl); (case hr => first | (go_simp; done) | (go_simp; rfl)); intro gb284 hg w6 hbox hb; have BK284 := Aside0.mk (hbox); have GW284 := Aside0.mk (zs_ hg (zw0_ HB)); have GE284 := Aside0.mk (zs_ hg (zw0_ HB)); replace HB := Aside0.mk (below_step (zw0_ HB) hb); clear hb hbox hg) | ((with_reducible refine gate_dst (N := 3) rfl ?_); refine box_event ?hg (N := 3) ?hd (cs := #[.slice A1_0 l1_0.length c1_0, .slice A1_1 l1_1.length c1_1]) (t := 27) ?hr ?_; (case hd => rfl); (case hg => rfl); (case hr => first | (go_simp; done) | (go_simp; rfl)); intro gb285 hg w7 hbox hb; have BK285 := Aside0.mk (hbox); have GW285 := Aside0.mk (zs_ hg (zw1_ HB GE284)); have GE285 := Aside0.mk (zs_ hg (zw1_ HB GE284)); replace HB := Aside0.mk (below_step (zw1_ HB GE284) hb); have NB284_285 := Aside0.mk (zn_ hg BK284); have NB285_284 := Aside0.mk (zm_ hg BK284); replace BK284 := Aside0.mk (zl_ BK284 hb); clear hb hbox hg) | ((with_reducible refine gate_callee (f := 11) rfl ?_); refine zg_ (some 13) Try.func11 #[] (h := ?_); (with_reducible refine (carousellaw6_awake.calls k  true _ A3.out).mono ?_); rintro e w8 ⟨rfl, hb⟩; refine ⟨_, rfl, ?_⟩; replace BK284 := Aside0.mk (zl_ BK284 hb); replace BK285 := Aside0.mk (zl_ BK285 hb); replace HB := Aside0.mk (below_step (zw2_ HB GE284 GE285) hb); (try clear hb)))
  (try simp only [Act.put, List.setIfInBounds_toArray, List.set_cons_zero, List.set_cons_succ])
  go_cut [30] (fun v30 wc => ∃ (kq : Nat) (x30_4 : Bool), v30 = .bool x30_4 ∧ Aside0 (carousellaw6_TensKeeps.j0 kq x30_4 l0_0 l0_1 l1_0 l1_1 = some r) ∧ Aside0 (kq ≤ k) ∧ Aside0 (wc.heap[gb284]? = some (.cells #[(.slice A0_0 l0_0.length c0_0), (.slice A0_1 l0_1.length c0_1)] 27 (0, 0))) ∧ Aside0 (wc.heap[gb285]? = some (.cells #[(.slice A1_0 l1_0.length c1_0), (.slice A1_1 l1_1.length c1_1)] 27 (0, 0))) ∧ Aside0 (Below w.heap.size w wc))
  case first =>
   have H := HC5.out
   clear HC5
   replace H := Option.bind_eq_some_iff.mp H
   obtain ⟨t287, A90, H⟩ := H
   (try dsimp only at H)
   have A9 := Aside0.mk A90
   clear A90
   by_cases c10 : t287 = true
   ·subst c10
    have H1 : (carousellaw6_TensKeeps.j0 k true l0_0 l0_1 l1_0 l1_1) = some r := by rw [if_pos rfl] at H; exact H
    clear H
    have H := H1
    clear H1
    have H' := Aside0.mk H
    clear H
    have hnb11 := NB284_285.out
    have hnc11 := NB285_284.out
    have hcz12_0 := zx_ (v := .slice A0_0 l0_0.length c0_0) BK284 0
    have hcz12_1 := zx_ (v := .slice A0_1 l0_1.length c0_1) BK284 1
    have hfz12_0 := blk_frozen BK284.out 0
    have hfz12_1 := blk_frozen BK284.out 1
    go_wp2_with (first | ((with_reducible refine gate_callee (f := 17) rfl ?_); refine zg_ (some 16) Try.func17 #[.agg #[.slice A0_0 l0_0.length c0_0, .slice A0_1 l0_1.length c0_1], .int .i64 200] (h := ?_); (with_reducible refine (carousellaw6_great.calls _ _ l0_0 _ _ l0_1 200 true _ ?side1 ?side2 ?side3 ?side4 A9.out).mono ?_); (case side1 => exact zk_ (Kd.C_below HR0_0.out HB.out)); (case side2 => exact HC0_0.out); (case side3 => exact zk_ (Kd.C_below HR0_1.out HB.out)); (case side4 => exact HC0_1.out); rintro e w13 ⟨rfl, hb⟩; refine ⟨_, rfl, ?_⟩; replace BK284 := Aside0.mk (zl_ BK284 hb); replace BK285 := Aside0.mk (zl_ BK285 hb); replace HB := Aside0.mk (below_step (zw2_ HB GE284 GE285) hb); (try clear hb)))
    go_meet
    case rel => exact ⟨_, (true), (by first | rfl | (simp; done) | (simp [*]; done)), H', ⟨by first | omega | exact Nat.le_refl _⟩, ⟨zb_ BK284⟩, ⟨zb_ BK285⟩, ⟨zw2_ HB GE284 GE285⟩⟩
   ·replace c10 := Bool.eq_false_iff.mpr c10
    subst c10
    have H1 := H
    rw [if_neg (show ¬ (false = true) by decide)] at H1
    clear H
    have H := H1
    clear H1
    replace H := Option.bind_eq_some_iff.mp H
    obtain ⟨t288, A140, H⟩ := H
    (try dsimp only at H)
    have A14 := Aside0.mk A140
    clear A140
    by_cases c15 : t288 = true
    ·subst c15
     have H1 : (carousellaw6_TensKeeps.j0 k true l0_0 l0_1 l1_0 l1_1) = some r := by rw [if_pos rfl] at H; exact H
     clear H
     have H := H1
     clear H1
     have H' := Aside0.mk H
     clear H
     have hnb16 := NB284_285.out
     have hnc16 := NB285_284.out
     have hcz17_0 := zx_ (v := .slice A0_0 l0_0.length c0_0) BK284 0
     have hcz17_1 := zx_ (v := .slice A0_1 l0_1.length c0_1) BK284 1
     have hfz17_0 := blk_frozen BK284.out 0
     have hfz17_1 := blk_frozen BK284.out 1
     go_wp2_with (first | ((with_reducible refine gate_callee (f := 17) rfl ?_); refine zg_ (some 16) Try.func17 #[.agg #[.slice A0_0 l0_0.length c0_0, .slice A0_1 l0_1.length c0_1], .int .i64 200] (h := ?_); (with_reducible refine (carousellaw6_great.calls _ _ l0_0 _ _ l0_1 200 false _ ?side1 ?side2 ?side3 ?side4 A9.out).mono ?_); (case side1 => exact zk_ (Kd.C_below HR0_0.out HB.out)); (case side2 => exact HC0_0.out); (case side3 => exact zk_ (Kd.C_below HR0_1.out HB.out)); (case side4 => exact HC0_1.out); rintro e w18 ⟨rfl, hb⟩; refine ⟨_, rfl, ?_⟩; replace BK284 := Aside0.mk (zl_ BK284 hb); replace BK285 := Aside0.mk (zl_ BK285 hb); replace HB := Aside0.mk (below_step (zw2_ HB GE284 GE285) hb); (try clear hb); have hcz19_0 := zx_ (v := .slice A1_0 l1_0.length c1_0) BK285 0; have hcz19_1 := zx_ (v := .slice A1_1 l1_1.length c1_1) BK285 1; have hfz19_0 := blk_frozen BK285.out 0; have hfz19_1 := blk_frozen BK285.out 1) | (go_at_call 17; (with_reducible refine (carousellaw6_great.calls _ _ l1_0 _ _ l1_1 200 true _ ?side1 ?side2 ?side3 ?side4 A14.out).mono ?_); (case side1 => exact zk_ (Kd.C_below HR1_0.out HB.out)); (case side2 => exact HC1_0.out); (case side3 => exact zk_ (Kd.C_below HR1_1.out HB.out)); (case side4 => exact HC1_1.out); rintro e w20 ⟨rfl, hb⟩; replace BK284 := Aside0.mk (zl_ BK284 hb); replace BK285 := Aside0.mk (zl_ BK285 hb); replace HB := Aside0.mk (below_step (zw2_ HB GE284 GE285) hb); (try clear hb)))
     go_meet
     case rel => exact ⟨_, (true), (by first | rfl | (simp; done) | (simp [*]; done)), H', ⟨by first | omega | exact Nat.le_refl _⟩, ⟨zb_ BK284⟩, ⟨zb_ BK285⟩, ⟨zw2_ HB GE284 GE285⟩⟩
    ·replace c15 := Bool.eq_false_iff.mpr c15
     subst c15
     have H1 := H
     rw [if_neg (show ¬ (false = true) by decide)] at H1
     clear H
     have H := H1
     clear H1
     replace H := Option.bind_eq_some_iff.mp H
     obtain ⟨t289, A210, H⟩ := H
     (try dsimp only at H)
     have A21 := Aside0.mk A210
     clear A210
     by_cases c22 : t289 = true
     ·subst c22
      have H1 := H
      rw [if_pos rfl] at H1
      clear H
      have H := H1
      clear H1
      replace H := Option.bind_eq_some_iff.mp H
      obtain ⟨t290, A230, H⟩ := H
      replace H : (carousellaw6_TensKeeps.j0 k (!t290) l0_0 l0_1 l1_0 l1_1) = some r := H
      have A23 := Aside0.mk A230
      clear A230
      have H' := Aside0.mk H
      clear H
      have hnb24 := NB284_285.out
      have hnc24 := NB285_284.out
      have hcz25_0 := zx_ (v := .slice A0_0 l0_0.length c0_0) BK284 0
      have hcz25_1 := zx_ (v := .slice A0_1 l0_1.length c0_1) BK284 1
      have hfz25_0 := blk_frozen BK284.out 0
      have hfz25_1 := blk_frozen BK284.out 1
      go_wp2_with (first | ((with_reducible refine gate_callee (f := 17) rfl ?_); refine zg_ (some 16) Try.func17 #[.agg #[.slice A0_0 l0_0.length c0_0, .slice A0_1 l0_1.length c0_1], .int .i64 200] (h := ?_); (with_reducible refine (carousellaw6_great.calls _ _ l0_0 _ _ l0_1 200 false _ ?side1 ?side2 ?side3 ?side4 A9.out).mono ?_); (case side1 => exact zk_ (Kd.C_below HR0_0.out HB.out)); (case side2 => exact HC0_0.out); (case side3 => exact zk_ (Kd.C_below HR0_1.out HB.out)); (case side4 => exact HC0_1.out); rintro e w26 ⟨rfl, hb⟩; refine ⟨_, rfl, ?_⟩; replace BK284 := Aside0.mk (zl_ BK284 hb); replace BK285 := Aside0.mk (zl_ BK285 hb); replace HB := Aside0.mk (below_step (zw2_ HB GE284 GE285) hb); (try clear hb); have hcz27_0 := zx_ (v := .slice A1_0 l1_0.length c1_0) BK285 0; have hcz27_1 := zx_ (v := .slice A1_1 l1_1.length c1_1) BK285 1; have hfz27_0 := blk_frozen BK285.out 0; have hfz27_1 := blk_frozen BK285.out 1) | (go_at_call 17; (with_reducible refine (carousellaw6_great.calls _ _ l1_0 _ _ l1_1 200 false _ ?side1 ?side2 ?side3 ?side4 A14.out).mono ?_); (case side1 => exact zk_ (Kd.C_below HR1_0.out HB.out)); (case side2 => exact HC1_0.out); (case side3 => exact zk_ (Kd.C_below HR1_1.out HB.out)); (case side4 => exact HC1_1.out); rintro e w28 ⟨rfl, hb⟩; replace BK284 := Aside0.mk (zl_ BK284 hb); replace BK285 := Aside0.mk (zl_ BK285 hb); replace HB := Aside0.mk (below_step (zw2_ HB GE284 GE285) hb); (try clear hb); have hcz29_0 := zx_ (v := .slice A0_0 l0_0.length c0_0) BK284 0; have hcz29_1 := zx_ (v := .slice A0_1 l0_1.length c0_1) BK284 1; have hfz29_0 := blk_frozen BK284.out 0; have hfz29_1 := blk_frozen BK284.out 1) | (go_at_call 18; (with_reducible refine (carouselref5_Is.calls k _ _ l0_0 _ _ l0_1 true _ ?side1 ?side2 ?side3 ?side4 A21.out).mono ?_); (case side1 => exact zk_ (Kd.C_below HR0_0.out HB.out)); (case side2 => exact HC0_0.out); (case side3 => exact zk_ (Kd.C_below HR0_1.out HB.out)); (case side4 => exact HC0_1.out); rintro e w30 ⟨rfl, hb⟩; replace BK284 := Aside0.mk (zl_ BK284 hb); replace BK285 := Aside0.mk (zl_ BK285 hb); replace HB := Aside0.mk (below_step (zw2_ HB GE284 GE285) hb); (try clear hb); have hcz31_0 := zx_ (v := .slice A1_0 l1_0.length c1_0) BK285 0; have hcz31_1 := zx_ (v := .slice A1_1 l1_1.length c1_1) BK285 1; have hfz31_0 := blk_frozen BK285.out 0; have hfz31_1 := blk_frozen BK285.out 1) | (go_at_call 18; (with_reducible refine (carouselref5_Is.calls k _ _ l1_0 _ _ l1_1 t290 _ ?side1 ?side2 ?side3 ?side4 A23.out).mono ?_); (case side1 => exact zk_ (Kd.C_below HR1_0.out HB.out)); (case side2 => exact HC1_0.out); (case side3 => exact zk_ (Kd.C_below HR1_1.out HB.out)); (case side4 => exact HC1_1.out); rintro e w32 ⟨rfl, hb⟩; replace BK284 := Aside0.mk (zl_ BK284 hb); replace BK285 := Aside0.mk (zl_ BK285 hb); replace HB := Aside0.mk (below_step (zw2_ HB GE284 GE285) hb); (try clear hb)))
      go_meet
      case rel => exact ⟨_, (!t290), (by first | rfl | (simp; done) | (simp [*]; done)), H', ⟨by first | omega | exact Nat.le_refl _⟩, ⟨zb_ BK284⟩, ⟨zb_ BK285⟩, ⟨zw2_ HB GE284 GE285⟩⟩
     ·replace c22 := Bool.eq_false_iff.mpr c22
      subst c22
      have H1 : (carousellaw6_TensKeeps.j0 k true l0_0 l0_1 l1_0 l1_1) = some r := by rw [if_neg (show ¬ (false = true) by decide)] at H; exact H
      clear H
      have H := H1
      clear H1
      have H' := Aside0.mk H
      clear H
      have hnb33 := NB284_285.out
      have hnc33 := NB285_284.out
      have hcz34_0 := zx_ (v := .slice A0_0 l0_0.length c0_0) BK284 0
      have hcz34_1 := zx_ (v := .slice A0_1 l0_1.length c0_1) BK284 1
      have hfz34_0 := blk_frozen BK284.out 0
      have hfz34_1 := blk_frozen BK284.out 1
      go_wp2_with (first | ((with_reducible refine gate_callee (f := 17) rfl ?_); refine zg_ (some 16) Try.func17 #[.agg #[.slice A0_0 l0_0.length c0_0, .slice A0_1 l0_1.length c0_1], .int .i64 200] (h := ?_); (with_reducible refine (carousellaw6_great.calls _ _ l0_0 _ _ l0_1 200 false _ ?side1 ?side2 ?side3 ?side4 A9.out).mono ?_); (case side1 => exact zk_ (Kd.C_below HR0_0.out HB.out)); (case side2 => exact HC0_0.out); (case side3 => exact zk_ (Kd.C_below HR0_1.out HB.out)); (case side4 => exact HC0_1.out); rintro e w35 ⟨rfl, hb⟩; refine ⟨_, rfl, ?_⟩; replace BK284 := Aside0.mk (zl_ BK284 hb); replace BK285 := Aside0.mk (zl_ BK285 hb); replace HB := Aside0.mk (below_step (zw2_ HB GE284 GE285) hb); (try clear hb); have hcz36_0 := zx_ (v := .slice A1_0 l1_0.length c1_0) BK285 0; have hcz36_1 := zx_ (v := .slice A1_1 l1_1.length c1_1) BK285 1; have hfz36_0 := blk_frozen BK285.out 0; have hfz36_1 := blk_frozen BK285.out 1) | (go_at_call 17; (with_reducible refine (carousellaw6_great.calls _ _ l1_0 _ _ l1_1 200 false _ ?side1 ?side2 ?side3 ?side4 A14.out).mono ?_); (case side1 => exact zk_ (Kd.C_below HR1_0.out HB.out)); (case side2 => exact HC1_0.out); (case side3 => exact zk_ (Kd.C_below HR1_1.out HB.out)); (case side4 => exact HC1_1.out); rintro e w37 ⟨rfl, hb⟩; replace BK284 := Aside0.mk (zl_ BK284 hb); replace BK285 := Aside0.mk (zl_ BK285 hb); replace HB := Aside0.mk (below_step (zw2_ HB GE284 GE285) hb); (try clear hb); have hcz38_0 := zx_ (v := .slice A0_0 l0_0.length c0_0) BK284 0; have hcz38_1 := zx_ (v := .slice A0_1 l0_1.length c0_1) BK284 1; have hfz38_0 := blk_frozen BK284.out 0; have hfz38_1 := blk_frozen BK284.out 1) | (go_at_call 18; (with_reducible refine (carouselref5_Is.calls k _ _ l0_0 _ _ l0_1 false _ ?side1 ?side2 ?side3 ?side4 A21.out).mono ?_); (case side1 => exact zk_ (Kd.C_below HR0_0.out HB.out)); (case side2 => exact HC0_0.out); (case side3 => exact zk_ (Kd.C_below HR0_1.out HB.out)); (case side4 => exact HC0_1.out); rintro e w39 ⟨rfl, hb⟩; replace BK284 := Aside0.mk (zl_ BK284 hb); replace BK285 := Aside0.mk (zl_ BK285 hb); replace HB := Aside0.mk (below_step (zw2_ HB GE284 GE285) hb); (try clear hb)))
      go_meet
      case rel => exact ⟨_, (true), (by first | rfl | (simp; done) | (simp [*]; done)), H', ⟨by first | omega | exact Nat.le_refl _⟩, ⟨zb_ BK284⟩, ⟨zb_ BK285⟩, ⟨zw2_ HB GE284 GE285⟩⟩
  case rest =>
   clear HC5
   try clear c1
   try clear c2
   try clear p2
   try clear c3
   try clear c4
   try clear c10
   try clear c11
   try clear c15
   try clear c16
   try clear c17
   try clear c22
   try clear c24
   try clear c33
   try clear hcz12_0
   try clear hcz12_1
   try clear hcz17_0
   try clear hcz17_1
   try clear hcz19_0
   try clear hcz19_1
   try clear hcz25_0
   try clear hcz25_1
   try clear hcz27_0
   try clear hcz27_1
   try clear hcz29_0
   try clear hcz29_1
   try clear hcz31_0
   try clear hcz31_1
   try clear hcz34_0
   try clear hcz34_1
   try clear hcz36_0
   try clear hcz36_1
   try clear hcz38_0
   try clear hcz38_1
   try clear hfz12_0
   try clear hfz12_1
   try clear hfz17_0
   try clear hfz17_1
   try clear hfz19_0
   try clear hfz19_1
   try clear hfz25_0
   try clear hfz25_1
   try clear hfz27_0
   try clear hfz27_1
   try clear hfz29_0
   try clear hfz29_1
   try clear hfz31_0
   try clear hfz31_1
   try clear hfz34_0
   try clear hfz34_1
   try clear hfz36_0
   try clear hfz36_1
   try clear hfz38_0
   try clear hfz38_1
   obtain ⟨kq, x30_4, rfl, HA, HJ4, BK284, BK285, HB⟩ := hcut
   cases kq with
   | zero => exact absurd HA.out (by simp [carousellaw6_TensKeeps.j0])
   | succ kj4 =>
    have H := HA.out
    clear HA
    simp only [carousellaw6_TensKeeps.j0] at H
    by_cases c40 : x30_4 = true
    ·subst c40
     have H1 : (some true) = some r := by rw [if_pos rfl] at H; exact H
     clear H
     have H := H1
     clear H1
     obtain rfl := Option.some.inj H
     go_wp2
     go_ret
     exact ⟨by first | rfl | (simp [errW_none, errW_some] <;> rfl) | (simp [*, errW_none, errW_some] <;> rfl), zw2_ HB GE284 GE285⟩
    ·replace c40 := Bool.eq_false_iff.mpr c40
     subst c40
     have H1 := H
     rw [if_neg (show ¬ (false = true) by decide)] at H1
     clear H
     have H := H1
     clear H1
     obtain ⟨y291, hy291⟩ : ∃ y_ : List Int, y_ = (([] : List Int)) := ⟨_, rfl⟩
     replace H : (if y291.length + l0_0.length < 17592186044416 then ((some (y291 ++ l0_0 : List Int)).bind fun y294 => ((some (([] : List Int) : List Int)).bind fun y297 => (if y297.length + l0_1.length < 17592186044416 then ((some (y297 ++ l0_1 : List Int)).bind fun y300 => ((some (([] : List Int) : List Int)).bind fun y304 => (if y304.length + l1_0.length < 17592186044416 then ((some (y304 ++ l1_0 : List Int)).bind fun y307 => ((some (([] : List Int) : List Int)).bind fun y310 => (if y310.length + l1_1.length < 17592186044416 then ((some (y310 ++ l1_1 : List Int)).bind fun y313 => ((tens_Add.f kj4 y294 y300 y307 y313).bind fun bt317 => ((tens_Reshape.f kj4 y294 y300 y294).bind fun bt325 => (if bt317.2.2 = 0 then (carousellaw6_TensKeeps.l0 kj4 0 l0_0 l0_1 l1_0 l1_1 y294 y300 y307 y313 bt317.1 bt317.2.1 bt325.1 bt325.2.1) else (carousellaw6_TensKeeps.j2 kj4 l0_0 l0_1 l1_0 l1_1 y294 y300 y307 y313 bt325.1 bt325.2.1))))) else (none)))) else (none)))) else (none)))) else (none)) = some r := by first | (rw [hy291]; with_reducible exact H) | (have H2_ := (Option.bind_some _ _).symm.trans H; rw [hy291]; with_reducible exact H2_) | (have H2_ := (Option.bind_some _ _).symm.trans H; with_reducible exact H2_) | with_reducible exact H | (rw [hy291]; exact H) | exact H
     have Ny291 := Aside0.mk hy291
     clear hy291
     by_cases c41 : y291.length + l0_0.length < 17592186044416
     ·rw [if_pos c41] at H
      have LMc41 := Aside0.mk c41
      clear c41
      obtain ⟨y294, hy294⟩ : ∃ y_ : List Int, y_ = (y291 ++ l0_0) := ⟨_, rfl⟩
      replace H : ((some (([] : List Int) : List Int)).bind fun y297 => (if y297.length + l0_1.length < 17592186044416 then ((some (y297 ++ l0_1 : List Int)).bind fun y300 => ((some (([] : List Int) : List Int)).bind fun y304 => (if y304.length + l1_0.length < 17592186044416 then ((some (y304 ++ l1_0 : List Int)).bind fun y307 => ((some (([] : List Int) : List Int)).bind fun y310 => (if y310.length + l1_1.length < 17592186044416 then ((some (y310 ++ l1_1 : List Int)).bind fun y313 => ((tens_Add.f kj4 y294 y300 y307 y313).bind fun bt317 => ((tens_Reshape.f kj4 y294 y300 y294).bind fun bt325 => (if bt317.2.2 = 0 then (carousellaw6_TensKeeps.l0 kj4 0 l0_0 l0_1 l1_0 l1_1 y294 y300 y307 y313 bt317.1 bt317.2.1 bt325.1 bt325.2.1) else (carousellaw6_TensKeeps.j2 kj4 l0_0 l0_1 l1_0 l1_1 y294 y300 y307 y313 bt325.1 bt325.2.1))))) else (none)))) else (none)))) else (none))) = some r := by first | (rw [hy294]; with_reducible exact H) | (have H2_ := (Option.bind_some _ _).symm.trans H; rw [hy294]; with_reducible exact H2_) | (have H2_ := (Option.bind_some _ _).symm.trans H; with_reducible exact H2_) | with_reducible exact H | (rw [hy294]; exact H) | exact H
      have Ny294 := Aside0.mk hy294
      clear hy294
      obtain ⟨y297, hy297⟩ : ∃ y_ : List Int, y_ = (([] : List Int)) := ⟨_, rfl⟩
      replace H : (if y297.length + l0_1.length < 17592186044416 then ((some (y297 ++ l0_1 : List Int)).bind fun y300 => ((some (([] : List Int) : List Int)).bind fun y304 => (if y304.length + l1_0.length < 17592186044416 then ((some (y304 ++ l1_0 : List Int)).bind fun y307 => ((some (([] : List Int) : List Int)).bind fun y310 => (if y310.length + l1_1.length < 17592186044416 then ((some (y310 ++ l1_1 : List Int)).bind fun y313 => ((tens_Add.f kj4 y294 y300 y307 y313).bind fun bt317 => ((tens_Reshape.f kj4 y294 y300 y294).bind fun bt325 => (if bt317.2.2 = 0 then (carousellaw6_TensKeeps.l0 kj4 0 l0_0 l0_1 l1_0 l1_1 y294 y300 y307 y313 bt317.1 bt317.2.1 bt325.1 bt325.2.1) else (carousellaw6_TensKeeps.j2 kj4 l0_0 l0_1 l1_0 l1_1 y294 y300 y307 y313 bt325.1 bt325.2.1))))) else (none)))) else (none)))) else (none)) = some r := by first | (rw [hy297]; with_reducible exact H) | (have H2_ := (Option.bind_some _ _).symm.trans H; rw [hy297]; with_reducible exact H2_) | (have H2_ := (Option.bind_some _ _).symm.trans H; with_reducible exact H2_) | with_reducible exact H | (rw [hy297]; exact H) | exact H
      have Ny297 := Aside0.mk hy297
      clear hy297
      by_cases c42 : y297.length + l0_1.length < 17592186044416
      ·rw [if_pos c42] at H
       have LMc42 := Aside0.mk c42
       clear c42
       obtain ⟨y300, hy300⟩ : ∃ y_ : List Int, y_ = (y297 ++ l0_1) := ⟨_, rfl⟩
       replace H : ((some (([] : List Int) : List Int)).bind fun y304 => (if y304.length + l1_0.length < 17592186044416 then ((some (y304 ++ l1_0 : List Int)).bind fun y307 => ((some (([] : List Int) : List Int)).bind fun y310 => (if y310.length + l1_1.length < 17592186044416 then ((some (y310 ++ l1_1 : List Int)).bind fun y313 => ((tens_Add.f kj4 y294 y300 y307 y313).bind fun bt317 => ((tens_Reshape.f kj4 y294 y300 y294).bind fun bt325 => (if bt317.2.2 = 0 then (carousellaw6_TensKeeps.l0 kj4 0 l0_0 l0_1 l1_0 l1_1 y294 y300 y307 y313 bt317.1 bt317.2.1 bt325.1 bt325.2.1) else (carousellaw6_TensKeeps.j2 kj4 l0_0 l0_1 l1_0 l1_1 y294 y300 y307 y313 bt325.1 bt325.2.1))))) else (none)))) else (none))) = some r := by first | (rw [hy300]; with_reducible exact H) | (have H2_ := (Option.bind_some _ _).symm.trans H; rw [hy300]; with_reducible exact H2_) | (have H2_ := (Option.bind_some _ _).symm.trans H; with_reducible exact H2_) | with_reducible exact H | (rw [hy300]; exact H) | exact H
       have Ny300 := Aside0.mk hy300
       clear hy300
       obtain ⟨y304, hy304⟩ : ∃ y_ : List Int, y_ = (([] : List Int)) := ⟨_, rfl⟩
       replace H : (if y304.length + l1_0.length < 17592186044416 then ((some (y304 ++ l1_0 : List Int)).bind fun y307 => ((some (([] : List Int) : List Int)).bind fun y310 => (if y310.length + l1_1.length < 17592186044416 then ((some (y310 ++ l1_1 : List Int)).bind fun y313 => ((tens_Add.f kj4 y294 y300 y307 y313).bind fun bt317 => ((tens_Reshape.f kj4 y294 y300 y294).bind fun bt325 => (if bt317.2.2 = 0 then (carousellaw6_TensKeeps.l0 kj4 0 l0_0 l0_1 l1_0 l1_1 y294 y300 y307 y313 bt317.1 bt317.2.1 bt325.1 bt325.2.1) else (carousellaw6_TensKeeps.j2 kj4 l0_0 l0_1 l1_0 l1_1 y294 y300 y307 y313 bt325.1 bt325.2.1))))) else (none)))) else (none)) = some r := by first | (rw [hy304]; with_reducible exact H) | (have H2_ := (Option.bind_some _ _).symm.trans H; rw [hy304]; with_reducible exact H2_) | (have H2_ := (Option.bind_some _ _).symm.trans H; with_reducible exact H2_) | with_reducible exact H | (rw [hy304]; exact H) | exact H
       have Ny304 := Aside0.mk hy304
       clear hy304
       by_cases c43 : y304.length + l1_0.length < 17592186044416
       ·rw [if_pos c43] at H
        have LMc43 := Aside0.mk c43
        clear c43
        obtain ⟨y307, hy307⟩ : ∃ y_ : List Int, y_ = (y304 ++ l1_0) := ⟨_, rfl⟩
        replace H : ((some (([] : List Int) : List Int)).bind fun y310 => (if y310.length + l1_1.length < 17592186044416 then ((some (y310 ++ l1_1 : List Int)).bind fun y313 => ((tens_Add.f kj4 y294 y300 y307 y313).bind fun bt317 => ((tens_Reshape.f kj4 y294 y300 y294).bind fun bt325 => (if bt317.2.2 = 0 then (carousellaw6_TensKeeps.l0 kj4 0 l0_0 l0_1 l1_0 l1_1 y294 y300 y307 y313 bt317.1 bt317.2.1 bt325.1 bt325.2.1) else (carousellaw6_TensKeeps.j2 kj4 l0_0 l0_1 l1_0 l1_1 y294 y300 y307 y313 bt325.1 bt325.2.1))))) else (none))) = some r := by first | (rw [hy307]; with_reducible exact H) | (have H2_ := (Option.bind_some _ _).symm.trans H; rw [hy307]; with_reducible exact H2_) | (have H2_ := (Option.bind_some _ _).symm.trans H; with_reducible exact H2_) | with_reducible exact H | (rw [hy307]; exact H) | exact H
        have Ny307 := Aside0.mk hy307
        clear hy307
        obtain ⟨y310, hy310⟩ : ∃ y_ : List Int, y_ = (([] : List Int)) := ⟨_, rfl⟩
        replace H : (if y310.length + l1_1.length < 17592186044416 then ((some (y310 ++ l1_1 : List Int)).bind fun y313 => ((tens_Add.f kj4 y294 y300 y307 y313).bind fun bt317 => ((tens_Reshape.f kj4 y294 y300 y294).bind fun bt325 => (if bt317.2.2 = 0 then (carousellaw6_TensKeeps.l0 kj4 0 l0_0 l0_1 l1_0 l1_1 y294 y300 y307 y313 bt317.1 bt317.2.1 bt325.1 bt325.2.1) else (carousellaw6_TensKeeps.j2 kj4 l0_0 l0_1 l1_0 l1_1 y294 y300 y307 y313 bt325.1 bt325.2.1))))) else (none)) = some r := by first | (rw [hy310]; with_reducible exact H) | (have H2_ := (Option.bind_some _ _).symm.trans H; rw [hy310]; with_reducible exact H2_) | (have H2_ := (Option.bind_some _ _).symm.trans H; with_reducible exact H2_) | with_reducible exact H | (rw [hy310]; exact H) | exact H
        have Ny310 := Aside0.mk hy310
        clear hy310
        by_cases c44 : y310.length + l1_1.length < 17592186044416
        ·rw [if_pos c44] at H
         have LMc44 := Aside0.mk c44
         clear c44
         obtain ⟨y313, hy313⟩ : ∃ y_ : List Int, y_ = (y310 ++ l1_1) := ⟨_, rfl⟩
         replace H : ((tens_Add.f kj4 y294 y300 y307 y313).bind fun bt317 => ((tens_Reshape.f kj4 y294 y300 y294).bind fun bt325 => (if bt317.2.2 = 0 then (carousellaw6_TensKeeps.l0 kj4 0 l0_0 l0_1 l1_0 l1_1 y294 y300 y307 y313 bt317.1 bt317.2.1 bt325.1 bt325.2.1) else (carousellaw6_TensKeeps.j2 kj4 l0_0 l0_1 l1_0 l1_1 y294 y300 y307 y313 bt325.1 bt325.2.1)))) = some r := by first | (rw [hy313]; with_reducible exact H) | (have H2_ := (Option.bind_some _ _).symm.trans H; rw [hy313]; with_reducible exact H2_) | (have H2_ := (Option.bind_some _ _).symm.trans H; with_reducible exact H2_) | with_reducible exact H | (rw [hy313]; exact H) | exact H
         have Ny313 := Aside0.mk hy313
         clear hy313
         replace H := Option.bind_eq_some_iff.mp H
         obtain ⟨⟨t317, t320, t323⟩, A450, H⟩ := H
         (try dsimp only at H)
         have A45 := Aside0.mk A450
         clear A450
         replace H := Option.bind_eq_some_iff.mp H
         obtain ⟨⟨t325, t328, t331⟩, A460, H⟩ := H
         (try dsimp only at H)
         have A46 := Aside0.mk A460
         clear A460
         have HC47 := Aside0.mk H
         clear H
         try go_wp2
         replace BK284 := Aside0.mk (blk_drew BK284.out)
         replace BK285 := Aside0.mk (blk_drew BK285.out)
         replace HB := Aside0.mk (below_drew1 HB.out)
         refine start_ (n := 11) (S := fun w' => w'.cell? ⟨gb284, 0, none⟩ = some (.slice A0_0 l0_0.length c0_0) ∧ w'.cell? ⟨gb284, 1, none⟩ = some (.slice A0_1 l0_1.length c0_1)) (ds := []) #[false, false, false, false, false, false, false, false, false, false, false] (by kernel_rfl) rfl rfl ⟨(blk_cell BK284.out 0).trans rfl, (blk_cell BK284.out 1).trans rfl⟩ (fun hHeld => ?_); refine with_tabW carousellaw6_TensKeeps.tab5 carousellaw6_TensKeeps.bits5 (fun HT_ HW_ => ?_)
         generalize wc.drew = w48 at BK284 BK285 HB hHeld ⊢
         refine zp_ 1 (some 32) (h := ?_)
         refine zp_ 5 (some 36) (h := ?_)
         refine zt_ 2 (some 33) (hr := by rintro w' ⟨s0, s1⟩; go_simp; with_reducible rfl) (h := ?_)
         refine zt_ 6 (some 37) (hr := by rintro w' ⟨s0, s1⟩; go_simp; with_reducible rfl) (h := ?_)
         refine join_ (σ := Value × Value × Value × Value × Nat) 1 #[true, true, true, true, true, true, true, true, true, true, false] (fun s_ => [(31, s_.1), (34, s_.2.1), (35, s_.2.2.1), (38, s_.2.2.2.1), (5, .pointer (some ⟨s_.2.2.2.2, 0, none⟩)), (39, .agg #[s_.2.1, s_.2.2.2.1])]) (fun s_ w' => (w'.cell? ⟨gb284, 0, none⟩ = some (.slice A0_0 l0_0.length c0_0) ∧ w'.cell? ⟨gb284, 1, none⟩ = some (.slice A0_1 l0_1.length c0_1)) ∧ (Kd.R (Kd.int .i64) 3 w' w.heap.size (fun _ => True) s_.2.1 y294) ∧ (Kd.R (Kd.int .i64) 23 w' w.heap.size (fun _ => True) s_.2.2.2.1 y300) ∧ (w'.heap[gb284]? = some (.cells #[.slice A0_0 l0_0.length c0_0, .slice A0_1 l0_1.length c0_1] 27 (0, 0))) ∧ (w'.heap[gb285]? = some (.cells #[.slice A1_0 l1_0.length c1_0, .slice A1_1 l1_1.length c1_1] 27 (0, 0))) ∧ (w'.heap[s_.2.2.2.2]? = some (.cells #[.slice none 0 0, .slice none 0 0] 27 (0, 0))) ∧ (w.heap.size ≤ s_.2.2.2.2) ∧ (w.heap.size ≤ s_.2.2.2.2) ∧ (gb284 ≠ s_.2.2.2.2) ∧ (s_.2.2.2.2 ≠ gb284) ∧ (gb285 ≠ s_.2.2.2.2) ∧ (s_.2.2.2.2 ≠ gb285) ∧ (Below w.heap.size w w')) ?_ ?_
         rotate_left
         ·intro hJ0_3_4_7_9
          refine join_ (σ := Value × Value × Value × Value) 2 #[true, true, true, true, true, true, true, true, true, false, false] (fun s_ => [(31, s_.1), (34, s_.2.1), (35, s_.2.2.1), (38, s_.2.2.2), (39, .agg #[s_.2.1, s_.2.2.2])]) (fun s_ w' => (w'.cell? ⟨gb284, 0, none⟩ = some (.slice A0_0 l0_0.length c0_0) ∧ w'.cell? ⟨gb284, 1, none⟩ = some (.slice A0_1 l0_1.length c0_1)) ∧ (Kd.R (Kd.int .i64) 3 w' w.heap.size (fun _ => True) s_.2.1 y294) ∧ (Kd.R (Kd.int .i64) 23 w' w.heap.size (fun _ => True) s_.2.2.2 y300) ∧ (w'.heap[gb284]? = some (.cells #[.slice A0_0 l0_0.length c0_0, .slice A0_1 l0_1.length c0_1] 27 (0, 0))) ∧ (w'.heap[gb285]? = some (.cells #[.slice A1_0 l1_0.length c1_0, .slice A1_1 l1_1.length c1_1] 27 (0, 0))) ∧ (Below w.heap.size w w')) ?_ ?_
          rotate_left
          ·intro hJ0_3_4_7
           refine join_ (σ := Value × Value × Value × Nat) 3 #[true, true, true, true, true, true, true, false, false, true, false] (fun s_ => [(31, s_.1), (34, s_.2.1), (35, s_.2.2.1), (5, .pointer (some ⟨s_.2.2.2, 0, none⟩))]) (fun s_ w' => (w'.cell? ⟨gb284, 0, none⟩ = some (.slice A0_0 l0_0.length c0_0) ∧ w'.cell? ⟨gb284, 1, none⟩ = some (.slice A0_1 l0_1.length c0_1)) ∧ (Kd.R (Kd.int .i64) 3 w' w.heap.size (fun _ => True) s_.2.1 y294) ∧ (Kd.R (Kd.int .i64) 23 w' w.heap.size (fun _ => True) s_.2.2.1 y297) ∧ (w'.heap[gb284]? = some (.cells #[.slice A0_0 l0_0.length c0_0, .slice A0_1 l0_1.length c0_1] 27 (0, 0))) ∧ (w'.heap[gb285]? = some (.cells #[.slice A1_0 l1_0.length c1_0, .slice A1_1 l1_1.length c1_1] 27 (0, 0))) ∧ (w'.heap[s_.2.2.2]? = some (.cells #[.slice none 0 0, .slice none 0 0] 27 (0, 0))) ∧ (w.heap.size ≤ s_.2.2.2) ∧ (w.heap.size ≤ s_.2.2.2) ∧ (gb284 ≠ s_.2.2.2) ∧ (s_.2.2.2 ≠ gb284) ∧ (gb285 ≠ s_.2.2.2) ∧ (s_.2.2.2 ≠ gb285) ∧ (Below w.heap.size w w')) ?_ ?_
           rotate_left
           ·intro hJ0_3_4_9
            refine join_ (σ := Value × Value × Value) 4 #[true, true, true, true, true, true, true, false, false, false, false] (fun s_ => [(31, s_.1), (34, s_.2.1), (35, s_.2.2)]) (fun s_ w' => (w'.cell? ⟨gb284, 0, none⟩ = some (.slice A0_0 l0_0.length c0_0) ∧ w'.cell? ⟨gb284, 1, none⟩ = some (.slice A0_1 l0_1.length c0_1)) ∧ (Kd.R (Kd.int .i64) 3 w' w.heap.size (fun _ => True) s_.2.1 y294) ∧ (Kd.R (Kd.int .i64) 23 w' w.heap.size (fun _ => True) s_.2.2 y297) ∧ (w'.heap[gb284]? = some (.cells #[.slice A0_0 l0_0.length c0_0, .slice A0_1 l0_1.length c0_1] 27 (0, 0))) ∧ (w'.heap[gb285]? = some (.cells #[.slice A1_0 l1_0.length c1_0, .slice A1_1 l1_1.length c1_1] 27 (0, 0))) ∧ (Below w.heap.size w w')) ?_ ?_
            rotate_left
            ·intro hJ0_3_4
             refine join_ (σ := Value × Value × Nat) 4 #[true, true, true, true, false, true, true, false, false, true, false] (fun s_ => [(31, s_.1), (34, s_.2.1), (5, .pointer (some ⟨s_.2.2, 0, none⟩))]) (fun s_ w' => (w'.cell? ⟨gb284, 0, none⟩ = some (.slice A0_0 l0_0.length c0_0) ∧ w'.cell? ⟨gb284, 1, none⟩ = some (.slice A0_1 l0_1.length c0_1)) ∧ (Kd.R (Kd.int .i64) 3 w' w.heap.size (fun _ => True) s_.2.1 y294) ∧ (w'.heap[gb284]? = some (.cells #[.slice A0_0 l0_0.length c0_0, .slice A0_1 l0_1.length c0_1] 27 (0, 0))) ∧ (w'.heap[gb285]? = some (.cells #[.slice A1_0 l1_0.length c1_0, .slice A1_1 l1_1.length c1_1] 27 (0, 0))) ∧ (w'.heap[s_.2.2]? = some (.cells #[.slice none 0 0, .slice none 0 0] 27 (0, 0))) ∧ (w.heap.size ≤ s_.2.2) ∧ (w.heap.size ≤ s_.2.2) ∧ (gb284 ≠ s_.2.2) ∧ (s_.2.2 ≠ gb284) ∧ (gb285 ≠ s_.2.2) ∧ (s_.2.2 ≠ gb285) ∧ (Below w.heap.size w w')) ?_ ?_
             rotate_left
             ·intro hJ0_3_9
              refine join_ (σ := Value × Value × Nat) 4 #[true, true, true, false, true, true, true, false, false, true, false] (fun s_ => [(31, s_.1), (35, s_.2.1), (5, .pointer (some ⟨s_.2.2, 0, none⟩))]) (fun s_ w' => (w'.cell? ⟨gb284, 0, none⟩ = some (.slice A0_0 l0_0.length c0_0) ∧ w'.cell? ⟨gb284, 1, none⟩ = some (.slice A0_1 l0_1.length c0_1)) ∧ (Kd.R (Kd.int .i64) 3 w' w.heap.size (fun _ => True) s_.1 y291) ∧ (Kd.R (Kd.int .i64) 23 w' w.heap.size (fun _ => True) s_.2.1 y297) ∧ (w'.heap[gb284]? = some (.cells #[.slice A0_0 l0_0.length c0_0, .slice A0_1 l0_1.length c0_1] 27 (0, 0))) ∧ (w'.heap[gb285]? = some (.cells #[.slice A1_0 l1_0.length c1_0, .slice A1_1 l1_1.length c1_1] 27 (0, 0))) ∧ (w'.heap[s_.2.2]? = some (.cells #[.slice none 0 0, .slice none 0 0] 27 (0, 0))) ∧ (w.heap.size ≤ s_.2.2) ∧ (w.heap.size ≤ s_.2.2) ∧ (gb284 ≠ s_.2.2) ∧ (s_.2.2 ≠ gb284) ∧ (gb285 ≠ s_.2.2) ∧ (s_.2.2 ≠ gb285) ∧ (Below w.heap.size w w')) ?_ ?_
              rotate_left
              ·intro hJ0_4_9
               refine join_ (σ := Value × Value) 5 #[true, true, true, true, false, true, true, false, false, false, false] (fun s_ => [(31, s_.1), (34, s_.2)]) (fun s_ w' => (w'.cell? ⟨gb284, 0, none⟩ = some (.slice A0_0 l0_0.length c0_0) ∧ w'.cell? ⟨gb284, 1, none⟩ = some (.slice A0_1 l0_1.length c0_1)) ∧ (Kd.R (Kd.int .i64) 3 w' w.heap.size (fun _ => True) s_.2 y294) ∧ (w'.heap[gb284]? = some (.cells #[.slice A0_0 l0_0.length c0_0, .slice A0_1 l0_1.length c0_1] 27 (0, 0))) ∧ (w'.heap[gb285]? = some (.cells #[.slice A1_0 l1_0.length c1_0, .slice A1_1 l1_1.length c1_1] 27 (0, 0))) ∧ (Below w.heap.size w w')) ?_ ?_
               rotate_left
               ·intro hJ0_3
                refine join_ (σ := Value × Value) 5 #[true, true, true, false, true, true, true, false, false, false, false] (fun s_ => [(31, s_.1), (35, s_.2)]) (fun s_ w' => (w'.cell? ⟨gb284, 0, none⟩ = some (.slice A0_0 l0_0.length c0_0) ∧ w'.cell? ⟨gb284, 1, none⟩ = some (.slice A0_1 l0_1.length c0_1)) ∧ (Kd.R (Kd.int .i64) 3 w' w.heap.size (fun _ => True) s_.1 y291) ∧ (Kd.R (Kd.int .i64) 23 w' w.heap.size (fun _ => True) s_.2 y297) ∧ (w'.heap[gb284]? = some (.cells #[.slice A0_0 l0_0.length c0_0, .slice A0_1 l0_1.length c0_1] 27 (0, 0))) ∧ (w'.heap[gb285]? = some (.cells #[.slice A1_0 l1_0.length c1_0, .slice A1_1 l1_1.length c1_1] 27 (0, 0))) ∧ (Below w.heap.size w w')) ?_ ?_
                rotate_left
                ·intro hJ0_4
                 refine join_ (σ := Value × Nat) 5 #[true, true, true, false, false, true, true, false, false, true, false] (fun s_ => [(31, s_.1), (5, .pointer (some ⟨s_.2, 0, none⟩))]) (fun s_ w' => (w'.cell? ⟨gb284, 0, none⟩ = some (.slice A0_0 l0_0.length c0_0) ∧ w'.cell? ⟨gb284, 1, none⟩ = some (.slice A0_1 l0_1.length c0_1)) ∧ (Kd.R (Kd.int .i64) 3 w' w.heap.size (fun _ => True) s_.1 y291) ∧ (w'.heap[gb284]? = some (.cells #[.slice A0_0 l0_0.length c0_0, .slice A0_1 l0_1.length c0_1] 27 (0, 0))) ∧ (w'.heap[gb285]? = some (.cells #[.slice A1_0 l1_0.length c1_0, .slice A1_1 l1_1.length c1_1] 27 (0, 0))) ∧ (w'.heap[s_.2]? = some (.cells #[.slice none 0 0, .slice none 0 0] 27 (0, 0))) ∧ (w.heap.size ≤ s_.2) ∧ (w.heap.size ≤ s_.2) ∧ (gb284 ≠ s_.2) ∧ (s_.2 ≠ gb284) ∧ (gb285 ≠ s_.2) ∧ (s_.2 ≠ gb285) ∧ (Below w.heap.size w w')) ?_ ?_
                 rotate_left
                 ·intro hJ0_9
                  refine join_ (σ := Value × Nat) 5 #[false, true, true, false, true, true, true, false, false, true, false] (fun s_ => [(35, s_.1), (5, .pointer (some ⟨s_.2, 0, none⟩))]) (fun s_ w' => (w'.cell? ⟨gb284, 0, none⟩ = some (.slice A0_0 l0_0.length c0_0) ∧ w'.cell? ⟨gb284, 1, none⟩ = some (.slice A0_1 l0_1.length c0_1)) ∧ (Kd.R (Kd.int .i64) 23 w' w.heap.size (fun _ => True) s_.1 y297) ∧ (w'.heap[gb284]? = some (.cells #[.slice A0_0 l0_0.length c0_0, .slice A0_1 l0_1.length c0_1] 27 (0, 0))) ∧ (w'.heap[gb285]? = some (.cells #[.slice A1_0 l1_0.length c1_0, .slice A1_1 l1_1.length c1_1] 27 (0, 0))) ∧ (w'.heap[s_.2]? = some (.cells #[.slice none 0 0, .slice none 0 0] 27 (0, 0))) ∧ (w.heap.size ≤ s_.2) ∧ (w.heap.size ≤ s_.2) ∧ (gb284 ≠ s_.2) ∧ (s_.2 ≠ gb284) ∧ (gb285 ≠ s_.2) ∧ (s_.2 ≠ gb285) ∧ (Below w.heap.size w w')) ?_ ?_
                  rotate_left
                  ·intro hJ4_9
                   refine join_ (σ := Value) 6 #[true, true, true, false, false, true, true, false, false, false, false] (fun s_ => [(31, s_)]) (fun s_ w' => (w'.cell? ⟨gb284, 0, none⟩ = some (.slice A0_0 l0_0.length c0_0) ∧ w'.cell? ⟨gb284, 1, none⟩ = some (.slice A0_1 l0_1.length c0_1)) ∧ (Kd.R (Kd.int .i64) 3 w' w.heap.size (fun _ => True) s_ y291) ∧ (w'.heap[gb284]? = some (.cells #[.slice A0_0 l0_0.length c0_0, .slice A0_1 l0_1.length c0_1] 27 (0, 0))) ∧ (w'.heap[gb285]? = some (.cells #[.slice A1_0 l1_0.length c1_0, .slice A1_1 l1_1.length c1_1] 27 (0, 0))) ∧ (Below w.heap.size w w')) ?_ ?_
                   rotate_left
                   ·intro hJ0
                    refine join_ (σ := Value) 6 #[false, true, true, false, true, true, true, false, false, false, false] (fun s_ => [(35, s_)]) (fun s_ w' => (w'.cell? ⟨gb284, 0, none⟩ = some (.slice A0_0 l0_0.length c0_0) ∧ w'.cell? ⟨gb284, 1, none⟩ = some (.slice A0_1 l0_1.length c0_1)) ∧ (Kd.R (Kd.int .i64) 23 w' w.heap.size (fun _ => True) s_ y297) ∧ (w'.heap[gb284]? = some (.cells #[.slice A0_0 l0_0.length c0_0, .slice A0_1 l0_1.length c0_1] 27 (0, 0))) ∧ (w'.heap[gb285]? = some (.cells #[.slice A1_0 l1_0.length c1_0, .slice A1_1 l1_1.length c1_1] 27 (0, 0))) ∧ (Below w.heap.size w w')) ?_ ?_
                    rotate_left
                    ·intro hJ4
                     refine join_ (σ := Nat) 6 #[false, true, true, false, false, true, true, false, false, true, false] (fun s_ => [(5, .pointer (some ⟨s_, 0, none⟩))]) (fun s_ w' => (w'.cell? ⟨gb284, 0, none⟩ = some (.slice A0_0 l0_0.length c0_0) ∧ w'.cell? ⟨gb284, 1, none⟩ = some (.slice A0_1 l0_1.length c0_1)) ∧ (w'.heap[gb284]? = some (.cells #[.slice A0_0 l0_0.length c0_0, .slice A0_1 l0_1.length c0_1] 27 (0, 0))) ∧ (w'.heap[gb285]? = some (.cells #[.slice A1_0 l1_0.length c1_0, .slice A1_1 l1_1.length c1_1] 27 (0, 0))) ∧ (w'.heap[s_]? = some (.cells #[.slice none 0 0, .slice none 0 0] 27 (0, 0))) ∧ (w.heap.size ≤ s_) ∧ (w.heap.size ≤ s_) ∧ (gb284 ≠ s_) ∧ (s_ ≠ gb284) ∧ (gb285 ≠ s_) ∧ (s_ ≠ gb285) ∧ (Below w.heap.size w w')) ?_ ?_
                     rotate_left
                     ·intro hJ9
                      refine three_ (i := 0) (j := 4) (k := 9) (Ni := some 31) (Nj := some 35) (Nk := some 5) #[true, true, true, false, false, true, true, false, false, false, false] #[false, true, true, false, true, true, true, false, false, false, false] #[false, true, true, false, false, true, true, false, false, true, false] rfl rfl rfl rfl rfl rfl (three_of HT_.out (by kernel_rfl)) (by decide) (by decide) (by decide) (fun K hK => ?_) (fun K hK => ?_) (fun K hK => ?_)
                      ·skip
                       refine Kd.R_lit_step (Kd.int .i64) _ 3 ?hg (N := 31) ?hd (xs := ([] : List Int)) (inner := []) (ok := fun _ => True) (okp := fun _ => True) ?hr ?hp (fun _ hk => hk) trivial (Below.refl _ _) (Nat.le_refl _) (by simp) ?_; (case hd => rfl); (case hg => rfl); (case hr => first | (go_simp; done) | (go_simp; rfl)); (case hp => exact (Reps.none _ _))
                       intro v292 w49 ho50 hb hg_ hnew_
                       clear hg_ hnew_
                       (first | rw [← Ny291.out] at ho50 | (simp only [Int.reduceToNat] at ho50; rw [← Ny291.out] at ho50))
                       have HO293 := Aside0.mk (Kd.R_lower ho50 (below_size (zw2_ HB GE284 GE285)))
                       replace BK284 := Aside0.mk (zl_ BK284 hb)
                       replace BK285 := Aside0.mk (zl_ BK285 hb)
                       replace HB := Aside0.mk (below_step (zw2_ HB GE284 GE285) hb)
                       clear hb ho50
                       refine hK.out _ _ ⟨(blk_cell BK284.out 0).trans rfl, (blk_cell BK284.out 1).trans rfl⟩ (fun hHeld => ?_)
                       clear hK K
                       refine zq_ (some 31) (h := ?_)
                       exact zj_ (hJ0 (v292) _ ⟨hHeld, (zr_ HO293.out), (zb_ BK284), (zb_ BK285), (zw2_ HB GE284 GE285)⟩)
                      ·skip
                       refine Kd.R_lit_step (Kd.int .i64) _ 23 ?hg (N := 35) ?hd (xs := ([] : List Int)) (inner := []) (ok := fun _ => True) (okp := fun _ => True) ?hr ?hp (fun _ hk => hk) trivial (Below.refl _ _) (Nat.le_refl _) (by simp) ?_; (case hd => rfl); (case hg => rfl); (case hr => first | (go_simp; done) | (go_simp; rfl)); (case hp => exact (Reps.none _ _))
                       intro v298 w49 ho50 hb hg_ hnew_
                       clear hg_ hnew_
                       (first | rw [← Ny297.out] at ho50 | (simp only [Int.reduceToNat] at ho50; rw [← Ny297.out] at ho50))
                       have HO299 := Aside0.mk (Kd.R_lower ho50 (below_size (zw2_ HB GE284 GE285)))
                       replace BK284 := Aside0.mk (zl_ BK284 hb)
                       replace BK285 := Aside0.mk (zl_ BK285 hb)
                       replace HB := Aside0.mk (below_step (zw2_ HB GE284 GE285) hb)
                       clear hb ho50
                       refine hK.out _ _ ⟨(blk_cell BK284.out 0).trans rfl, (blk_cell BK284.out 1).trans rfl⟩ (fun hHeld => ?_)
                       clear hK K
                       refine zq_ (some 35) (h := ?_)
                       exact zj_ (hJ4 (v298) _ ⟨hHeld, (zr_ HO299.out), (zb_ BK284), (zb_ BK285), (zw2_ HB GE284 GE285)⟩)
                      ·skip
                       refine box_step ?hg (N := 5) ?hd (cs := #[.slice none 0 0, .slice none 0 0]) (t := 27) ?hr ?_; (case hd => rfl); (case hg => rfl); (case hr => first | (go_simp; done) | (go_simp; rfl))
                       intro gb303 hg w49 hbox hb
                       have BK303 := Aside0.mk (hbox)
                       have GW303 := Aside0.mk (zs_ hg (zw2_ HB GE284 GE285))
                       have GE303 := Aside0.mk (zs_ hg (zw2_ HB GE284 GE285))
                       replace HB := Aside0.mk (below_step (zw2_ HB GE284 GE285) hb)
                       have NB284_303 := Aside0.mk (zn_ hg BK284)
                       have NB303_284 := Aside0.mk (zm_ hg BK284)
                       replace BK284 := Aside0.mk (zl_ BK284 hb)
                       have NB285_303 := Aside0.mk (zn_ hg BK285)
                       have NB303_285 := Aside0.mk (zm_ hg BK285)
                       replace BK285 := Aside0.mk (zl_ BK285 hb)
                       clear hb hbox hg
                       refine hK.out _ _ ⟨(blk_cell BK284.out 0).trans rfl, (blk_cell BK284.out 1).trans rfl⟩ (fun hHeld => ?_)
                       clear hK K
                       refine zq_ (some 5) (h := ?_)
                       exact zj_ (hJ9 (gb303) _ ⟨hHeld, (zb_ BK284), (zb_ BK285), (zb_ BK303), GW303.out, GE303.out, NB284_303.out, NB303_284.out, NB285_303.out, NB303_285.out, (zw3_ HB GE284 GE285 GE303)⟩)
                     ·skip
                      rintro gb303 w50 ⟨hS_, h0_, h1_, h2_, h3_, h4_, h5_, h6_, h7_, h8_, h9_⟩
                      (try dsimp only at h0_ h1_ h2_ h3_ h4_ h5_ h6_ h7_ h8_ h9_)
                      clear BK284 BK285 HB
                      have BK284 := Aside0.mk h0_
                      have BK285 := Aside0.mk h1_
                      have BK303 := Aside0.mk h2_
                      have GW303 := Aside0.mk h3_
                      have GE303 := Aside0.mk h4_
                      have NB284_303 := Aside0.mk h5_
                      have NB303_284 := Aside0.mk h6_
                      have NB285_303 := Aside0.mk h7_
                      have NB303_285 := Aside0.mk h8_
                      have HB := Aside0.mk h9_
                      clear h0_ h1_ h2_ h3_ h4_ h5_ h6_ h7_ h8_ h9_
                      have hHeld : w50.cell? ⟨gb284, 0, none⟩ = some (.slice A0_0 l0_0.length c0_0) ∧ w50.cell? ⟨gb284, 1, none⟩ = some (.slice A0_1 l0_1.length c0_1) := hS_
                      refine zi_ (h := ?_)
                      refine two_ (i := 0) (j := 4) (Ni := some 31) (Nj := some 35) #[true, true, true, false, false, true, true, false, false, true, false] #[false, true, true, false, true, true, true, false, false, true, false] rfl rfl rfl rfl (two_of HT_.out (by kernel_rfl)) (by decide) (by decide) (fun K hK => ?_) (fun K hK => ?_)
                      ·skip
                       refine Kd.R_lit_step (Kd.int .i64) _ 3 ?hg (N := 31) ?hd (xs := ([] : List Int)) (inner := []) (ok := fun _ => True) (okp := fun _ => True) ?hr ?hp (fun _ hk => hk) trivial (Below.refl _ _) (Nat.le_refl _) (by simp) ?_; (case hd => rfl); (case hg => rfl); (case hr => first | (go_simp; done) | (go_simp; rfl)); (case hp => exact (Reps.none _ _))
                       intro v292 w51 ho52 hb hg_ hnew_
                       clear hg_ hnew_
                       (first | rw [← Ny291.out] at ho52 | (simp only [Int.reduceToNat] at ho52; rw [← Ny291.out] at ho52))
                       have HO293 := Aside0.mk (Kd.R_lower ho52 (below_size (zw3_ HB GE284 GE285 GE303)))
                       replace BK284 := Aside0.mk (zl_ BK284 hb)
                       replace BK285 := Aside0.mk (zl_ BK285 hb)
                       replace BK303 := Aside0.mk (zl_ BK303 hb)
                       replace HB := Aside0.mk (below_step (zw3_ HB GE284 GE285 GE303) hb)
                       clear hb ho52
                       refine hK.out _ _ ⟨(blk_cell BK284.out 0).trans rfl, (blk_cell BK284.out 1).trans rfl⟩ (fun hHeld => ?_)
                       clear hK K
                       refine zq_ (some 31) (h := ?_)
                       exact zj_ (hJ0_9 (v292, gb303) _ ⟨hHeld, (zr_ HO293.out), (zb_ BK284), (zb_ BK285), (zb_ BK303), GW303.out, GE303.out, NB284_303.out, NB303_284.out, NB285_303.out, NB303_285.out, (zw3_ HB GE284 GE285 GE303)⟩)
                      ·skip
                       refine Kd.R_lit_step (Kd.int .i64) _ 23 ?hg (N := 35) ?hd (xs := ([] : List Int)) (inner := []) (ok := fun _ => True) (okp := fun _ => True) ?hr ?hp (fun _ hk => hk) trivial (Below.refl _ _) (Nat.le_refl _) (by simp) ?_; (case hd => rfl); (case hg => rfl); (case hr => first | (go_simp; done) | (go_simp; rfl)); (case hp => exact (Reps.none _ _))
                       intro v298 w51 ho52 hb hg_ hnew_
                       clear hg_ hnew_
                       (first | rw [← Ny297.out] at ho52 | (simp only [Int.reduceToNat] at ho52; rw [← Ny297.out] at ho52))
                       have HO299 := Aside0.mk (Kd.R_lower ho52 (below_size (zw3_ HB GE284 GE285 GE303)))
                       replace BK284 := Aside0.mk (zl_ BK284 hb)
                       replace BK285 := Aside0.mk (zl_ BK285 hb)
                       replace BK303 := Aside0.mk (zl_ BK303 hb)
                       replace HB := Aside0.mk (below_step (zw3_ HB GE284 GE285 GE303) hb)
                       clear hb ho52
                       refine hK.out _ _ ⟨(blk_cell BK284.out 0).trans rfl, (blk_cell BK284.out 1).trans rfl⟩ (fun hHeld => ?_)
                       clear hK K
                       refine zq_ (some 35) (h := ?_)
                       exact zj_ (hJ4_9 (v298, gb303) _ ⟨hHeld, (zr_ HO299.out), (zb_ BK284), (zb_ BK285), (zb_ BK303), GW303.out, GE303.out, NB284_303.out, NB303_284.out, NB285_303.out, NB303_285.out, (zw3_ HB GE284 GE285 GE303)⟩)
                    ·skip
                     rintro v298 w51 ⟨hS_, h0_, h1_, h2_, h3_⟩
                     (try dsimp only at h0_ h1_ h2_ h3_)
                     clear BK284 BK285 HB
                     have HO299 := Aside0.mk h0_
                     have BK284 := Aside0.mk h1_
                     have BK285 := Aside0.mk h2_
                     have HB := Aside0.mk h3_
                     clear h0_ h1_ h2_ h3_
                     have hHeld : w51.cell? ⟨gb284, 0, none⟩ = some (.slice A0_0 l0_0.length c0_0) ∧ w51.cell? ⟨gb284, 1, none⟩ = some (.slice A0_1 l0_1.length c0_1) := hS_
                     refine zi_ (h := ?_)
                     refine two_ (i := 0) (j := 9) (Ni := some 31) (Nj := some 5) #[true, true, true, false, true, true, true, false, false, false, false] #[false, true, true, false, true, true, true, false, false, true, false] rfl rfl rfl rfl (two_of HT_.out (by kernel_rfl)) (by decide) (by decide) (fun K hK => ?_) (fun K hK => ?_)
                     ·skip
                      refine Kd.R_lit_step (Kd.int .i64) _ 3 ?hg (N := 31) ?hd (xs := ([] : List Int)) (inner := []) (ok := fun _ => True) (okp := fun _ => True) ?hr ?hp (fun _ hk => hk) trivial (Below.refl _ _) (Nat.le_refl _) (by simp) ?_; (case hd => rfl); (case hg => rfl); (case hr => first | (go_simp; done) | (go_simp; rfl)); (case hp => exact (Reps.none _ _))
                      intro v292 w52 ho53 hb hg_ hnew_
                      clear hg_ hnew_
                      (first | rw [← Ny291.out] at ho53 | (simp only [Int.reduceToNat] at ho53; rw [← Ny291.out] at ho53))
                      replace HO299 := Aside0.mk (Kd.R_below (zr_ HO299.out) hb)
                      have HO293 := Aside0.mk (Kd.R_lower ho53 (below_size (zw2_ HB GE284 GE285)))
                      replace BK284 := Aside0.mk (zl_ BK284 hb)
                      replace BK285 := Aside0.mk (zl_ BK285 hb)
                      replace HB := Aside0.mk (below_step (zw2_ HB GE284 GE285) hb)
                      clear hb ho53
                      refine hK.out _ _ ⟨(blk_cell BK284.out 0).trans rfl, (blk_cell BK284.out 1).trans rfl⟩ (fun hHeld => ?_)
                      clear hK K
                      refine zq_ (some 31) (h := ?_)
                      exact zj_ (hJ0_4 (v292, v298) _ ⟨hHeld, (zr_ HO293.out), (zr_ HO299.out), (zb_ BK284), (zb_ BK285), (zw2_ HB GE284 GE285)⟩)
                     ·skip
                      refine box_step ?hg (N := 5) ?hd (cs := #[.slice none 0 0, .slice none 0 0]) (t := 27) ?hr ?_; (case hd => rfl); (case hg => rfl); (case hr => first | (go_simp; done) | (go_simp; rfl))
                      intro gb303 hg w52 hbox hb
                      replace HO299 := Aside0.mk (Kd.R_below (zr_ HO299.out) hb)
                      have BK303 := Aside0.mk (hbox)
                      have GW303 := Aside0.mk (zs_ hg (zw2_ HB GE284 GE285))
                      have GE303 := Aside0.mk (zs_ hg (zw2_ HB GE284 GE285))
                      replace HB := Aside0.mk (below_step (zw2_ HB GE284 GE285) hb)
                      have NB284_303 := Aside0.mk (zn_ hg BK284)
                      have NB303_284 := Aside0.mk (zm_ hg BK284)
                      replace BK284 := Aside0.mk (zl_ BK284 hb)
                      have NB285_303 := Aside0.mk (zn_ hg BK285)
                      have NB303_285 := Aside0.mk (zm_ hg BK285)
                      replace BK285 := Aside0.mk (zl_ BK285 hb)
                      clear hb hbox hg
                      refine hK.out _ _ ⟨(blk_cell BK284.out 0).trans rfl, (blk_cell BK284.out 1).trans rfl⟩ (fun hHeld => ?_)
                      clear hK K
                      refine zq_ (some 5) (h := ?_)
                      exact zj_ (hJ4_9 (v298, gb303) _ ⟨hHeld, (zr_ HO299.out), (zb_ BK284), (zb_ BK285), (zb_ BK303), GW303.out, GE303.out, NB284_303.out, NB303_284.out, NB285_303.out, NB303_285.out, (zw3_ HB GE284 GE285 GE303)⟩)
                   ·skip
                    rintro v292 w51 ⟨hS_, h0_, h1_, h2_, h3_⟩
                    (try dsimp only at h0_ h1_ h2_ h3_)
                    clear BK284 BK285 HB
                    have HO293 := Aside0.mk h0_
                    have BK284 := Aside0.mk h1_
                    have BK285 := Aside0.mk h2_
                    have HB := Aside0.mk h3_
                    clear h0_ h1_ h2_ h3_
                    have hHeld : w51.cell? ⟨gb284, 0, none⟩ = some (.slice A0_0 l0_0.length c0_0) ∧ w51.cell? ⟨gb284, 1, none⟩ = some (.slice A0_1 l0_1.length c0_1) := hS_
                    refine zi_ (h := ?_)
                    refine three_ (i := 3) (j := 4) (k := 9) (Ni := some 34) (Nj := some 35) (Nk := some 5) #[true, true, true, true, false, true, true, false, false, false, false] #[true, true, true, false, true, true, true, false, false, false, false] #[true, true, true, false, false, true, true, false, false, true, false] rfl rfl rfl rfl rfl rfl (three_of HT_.out (by kernel_rfl)) (by decide) (by decide) (by decide) (fun K hK => ?_) (fun K hK => ?_) (fun K hK => ?_)
                    ·skip
                     refine Kd.R_append_rows_step (Kd.int .i64) (w0 := w) w.heap.size (by rfl) (.tmp 31) (.tmp 33) 22 3 (.int .i64 0) 8 rfl Try.underlying22 info3 rfl (by decide) (by omega) v292 y291 l0_0 _ _ _ (fun _ => True) (fun _ => False) rfl rfl ?aO ?aR (fun _ _ h => h) (fun _ h => h.elim) ?aF ?aB ?aS ?aL ?_
                     (case aR => exact zk_ (Kd.C_below HR0_0.out HB.out))
                     (case aB => exact (zw2_ HB GE284 GE285))
                     (case aF => exact (fun _ _ => trivial))
                     (case aO => exact (zr_ HO293.out))
                     (case aS => exact (below_size (zw2_ HB GE284 GE285)))
                     (case aL => have := LMc41.out; omega)
                     intro v295 w52 ho hb hg hat
                     rw [← Ny294.out] at ho
                     replace BK284 := Aside0.mk (zh_ BK284 hg (Kd.R_ne HO293.out BK284.out (by decide)))
                     replace BK285 := Aside0.mk (zh_ BK285 hg (Kd.R_ne HO293.out BK285.out (by decide)))
                     replace HB := Aside0.mk (hb)
                     have HO296 := Aside0.mk (ho)
                     clear HO293
                     clear ho hb hg hat
                     refine hK.out _ _ ⟨(blk_cell BK284.out 0).trans rfl, (blk_cell BK284.out 1).trans rfl⟩ (fun hHeld => ?_)
                     clear hK K
                     refine zq_ (some 34) (h := ?_)
                     exact zj_ (hJ0_3 (v292, v295) _ ⟨hHeld, (zr_ HO296.out), (zb_ BK284), (zb_ BK285), (zw2_ HB GE284 GE285)⟩)
                    ·skip
                     refine Kd.R_lit_step (Kd.int .i64) _ 23 ?hg (N := 35) ?hd (xs := ([] : List Int)) (inner := []) (ok := fun _ => True) (okp := fun _ => True) ?hr ?hp (fun _ hk => hk) trivial (Below.refl _ _) (Nat.le_refl _) (by simp) ?_; (case hd => rfl); (case hg => rfl); (case hr => first | (go_simp; done) | (go_simp; rfl)); (case hp => exact (Reps.none _ _))
                     intro v298 w52 ho53 hb hg_ hnew_
                     clear hg_ hnew_
                     (first | rw [← Ny297.out] at ho53 | (simp only [Int.reduceToNat] at ho53; rw [← Ny297.out] at ho53))
                     replace HO293 := Aside0.mk (Kd.R_below (zr_ HO293.out) hb)
                     have HO299 := Aside0.mk (Kd.R_lower ho53 (below_size (zw2_ HB GE284 GE285)))
                     replace BK284 := Aside0.mk (zl_ BK284 hb)
                     replace BK285 := Aside0.mk (zl_ BK285 hb)
                     replace HB := Aside0.mk (below_step (zw2_ HB GE284 GE285) hb)
                     clear hb ho53
                     refine hK.out _ _ ⟨(blk_cell BK284.out 0).trans rfl, (blk_cell BK284.out 1).trans rfl⟩ (fun hHeld => ?_)
                     clear hK K
                     refine zq_ (some 35) (h := ?_)
                     exact zj_ (hJ0_4 (v292, v298) _ ⟨hHeld, (zr_ HO293.out), (zr_ HO299.out), (zb_ BK284), (zb_ BK285), (zw2_ HB GE284 GE285)⟩)
                    ·skip
                     refine box_step ?hg (N := 5) ?hd (cs := #[.slice none 0 0, .slice none 0 0]) (t := 27) ?hr ?_; (case hd => rfl); (case hg => rfl); (case hr => first | (go_simp; done) | (go_simp; rfl))
                     intro gb303 hg w52 hbox hb
                     replace HO293 := Aside0.mk (Kd.R_below (zr_ HO293.out) hb)
                     have BK303 := Aside0.mk (hbox)
                     have GW303 := Aside0.mk (zs_ hg (zw2_ HB GE284 GE285))
                     have GE303 := Aside0.mk (zs_ hg (zw2_ HB GE284 GE285))
                     replace HB := Aside0.mk (below_step (zw2_ HB GE284 GE285) hb)
                     have NB284_303 := Aside0.mk (zn_ hg BK284)
                     have NB303_284 := Aside0.mk (zm_ hg BK284)
                     replace BK284 := Aside0.mk (zl_ BK284 hb)
                     have NB285_303 := Aside0.mk (zn_ hg BK285)
                     have NB303_285 := Aside0.mk (zm_ hg BK285)
                     replace BK285 := Aside0.mk (zl_ BK285 hb)
                     clear hb hbox hg
                     refine hK.out _ _ ⟨(blk_cell BK284.out 0).trans rfl, (blk_cell BK284.out 1).trans rfl⟩ (fun hHeld => ?_)
                     clear hK K
                     refine zq_ (some 5) (h := ?_)
                     exact zj_ (hJ0_9 (v292, gb303) _ ⟨hHeld, (zr_ HO293.out), (zb_ BK284), (zb_ BK285), (zb_ BK303), GW303.out, GE303.out, NB284_303.out, NB303_284.out, NB285_303.out, NB303_285.out, (zw3_ HB GE284 GE285 GE303)⟩)
                  ·skip
                   rintro ⟨v298, gb303⟩ w52 ⟨hS_, h0_, h1_, h2_, h3_, h4_, h5_, h6_, h7_, h8_, h9_, h10_⟩
                   (try dsimp only at h0_ h1_ h2_ h3_ h4_ h5_ h6_ h7_ h8_ h9_ h10_)
                   clear BK284 BK285 HB
                   have HO299 := Aside0.mk h0_
                   have BK284 := Aside0.mk h1_
                   have BK285 := Aside0.mk h2_
                   have BK303 := Aside0.mk h3_
                   have GW303 := Aside0.mk h4_
                   have GE303 := Aside0.mk h5_
                   have NB284_303 := Aside0.mk h6_
                   have NB303_284 := Aside0.mk h7_
                   have NB285_303 := Aside0.mk h8_
                   have NB303_285 := Aside0.mk h9_
                   have HB := Aside0.mk h10_
                   clear h0_ h1_ h2_ h3_ h4_ h5_ h6_ h7_ h8_ h9_ h10_
                   have hHeld : w52.cell? ⟨gb284, 0, none⟩ = some (.slice A0_0 l0_0.length c0_0) ∧ w52.cell? ⟨gb284, 1, none⟩ = some (.slice A0_1 l0_1.length c0_1) := hS_
                   refine zi_ (h := ?_)
                   refine one_ (i := 0) (N := some 31) #[true, true, true, false, true, true, true, false, false, true, false] rfl rfl (one_of HT_.out (by kernel_rfl)) (by decide) (fun K hK => ?_)
                   refine Kd.R_lit_step (Kd.int .i64) _ 3 ?hg (N := 31) ?hd (xs := ([] : List Int)) (inner := []) (ok := fun _ => True) (okp := fun _ => True) ?hr ?hp (fun _ hk => hk) trivial (Below.refl _ _) (Nat.le_refl _) (by simp) ?_; (case hd => rfl); (case hg => rfl); (case hr => first | (go_simp; done) | (go_simp; rfl)); (case hp => exact (Reps.none _ _))
                   intro v292 w53 ho54 hb hg_ hnew_
                   clear hg_ hnew_
                   (first | rw [← Ny291.out] at ho54 | (simp only [Int.reduceToNat] at ho54; rw [← Ny291.out] at ho54))
                   replace HO299 := Aside0.mk (Kd.R_below (zr_ HO299.out) hb)
                   have HO293 := Aside0.mk (Kd.R_lower ho54 (below_size (zw3_ HB GE284 GE285 GE303)))
                   replace BK284 := Aside0.mk (zl_ BK284 hb)
                   replace BK285 := Aside0.mk (zl_ BK285 hb)
                   replace BK303 := Aside0.mk (zl_ BK303 hb)
                   replace HB := Aside0.mk (below_step (zw3_ HB GE284 GE285 GE303) hb)
                   clear hb ho54
                   refine hK.out _ _ ⟨(blk_cell BK284.out 0).trans rfl, (blk_cell BK284.out 1).trans rfl⟩ (fun hHeld => ?_)
                   clear hK K
                   refine zq_ (some 31) (h := ?_)
                   exact zj_ (hJ0_4_9 (v292, v298, gb303) _ ⟨hHeld, (zr_ HO293.out), (zr_ HO299.out), (zb_ BK284), (zb_ BK285), (zb_ BK303), GW303.out, GE303.out, NB284_303.out, NB303_284.out, NB285_303.out, NB303_285.out, (zw3_ HB GE284 GE285 GE303)⟩)
                 ·skip
                  rintro ⟨v292, gb303⟩ w52 ⟨hS_, h0_, h1_, h2_, h3_, h4_, h5_, h6_, h7_, h8_, h9_, h10_⟩
                  (try dsimp only at h0_ h1_ h2_ h3_ h4_ h5_ h6_ h7_ h8_ h9_ h10_)
                  clear BK284 BK285 HB
                  have HO293 := Aside0.mk h0_
                  have BK284 := Aside0.mk h1_
                  have BK285 := Aside0.mk h2_
                  have BK303 := Aside0.mk h3_
                  have GW303 := Aside0.mk h4_
                  have GE303 := Aside0.mk h5_
                  have NB284_303 := Aside0.mk h6_
                  have NB303_284 := Aside0.mk h7_
                  have NB285_303 := Aside0.mk h8_
                  have NB303_285 := Aside0.mk h9_
                  have HB := Aside0.mk h10_
                  clear h0_ h1_ h2_ h3_ h4_ h5_ h6_ h7_ h8_ h9_ h10_
                  have hHeld : w52.cell? ⟨gb284, 0, none⟩ = some (.slice A0_0 l0_0.length c0_0) ∧ w52.cell? ⟨gb284, 1, none⟩ = some (.slice A0_1 l0_1.length c0_1) := hS_
                  refine zi_ (h := ?_)
                  refine two_ (i := 3) (j := 4) (Ni := some 34) (Nj := some 35) #[true, true, true, true, false, true, true, false, false, true, false] #[true, true, true, false, true, true, true, false, false, true, false] rfl rfl rfl rfl (two_of HT_.out (by kernel_rfl)) (by decide) (by decide) (fun K hK => ?_) (fun K hK => ?_)
                  ·skip
                   refine Kd.R_append_rows_step (Kd.int .i64) (w0 := w) w.heap.size (by rfl) (.tmp 31) (.tmp 33) 22 3 (.int .i64 0) 8 rfl Try.underlying22 info3 rfl (by decide) (by omega) v292 y291 l0_0 _ _ _ (fun _ => True) (fun _ => False) rfl rfl ?aO ?aR (fun _ _ h => h) (fun _ h => h.elim) ?aF ?aB ?aS ?aL ?_
                   (case aR => exact zk_ (Kd.C_below HR0_0.out HB.out))
                   (case aB => exact (zw3_ HB GE284 GE285 GE303))
                   (case aF => exact (fun _ _ => trivial))
                   (case aO => exact (zr_ HO293.out))
                   (case aS => exact (below_size (zw3_ HB GE284 GE285 GE303)))
                   (case aL => have := LMc41.out; omega)
                   intro v295 w53 ho hb hg hat
                   rw [← Ny294.out] at ho
                   replace BK284 := Aside0.mk (zh_ BK284 hg (Kd.R_ne HO293.out BK284.out (by decide)))
                   replace BK285 := Aside0.mk (zh_ BK285 hg (Kd.R_ne HO293.out BK285.out (by decide)))
                   replace BK303 := Aside0.mk (zh_ BK303 hg (Kd.R_ne HO293.out BK303.out (by decide)))
                   replace HB := Aside0.mk (hb)
                   have HO296 := Aside0.mk (ho)
                   clear HO293
                   clear ho hb hg hat
                   refine hK.out _ _ ⟨(blk_cell BK284.out 0).trans rfl, (blk_cell BK284.out 1).trans rfl⟩ (fun hHeld => ?_)
                   clear hK K
                   refine zq_ (some 34) (h := ?_)
                   exact zj_ (hJ0_3_9 (v292, v295, gb303) _ ⟨hHeld, (zr_ HO296.out), (zb_ BK284), (zb_ BK285), (zb_ BK303), GW303.out, GE303.out, NB284_303.out, NB303_284.out, NB285_303.out, NB303_285.out, (zw3_ HB GE284 GE285 GE303)⟩)
                  ·skip
                   refine Kd.R_lit_step (Kd.int .i64) _ 23 ?hg (N := 35) ?hd (xs := ([] : List Int)) (inner := []) (ok := fun _ => True) (okp := fun _ => True) ?hr ?hp (fun _ hk => hk) trivial (Below.refl _ _) (Nat.le_refl _) (by simp) ?_; (case hd => rfl); (case hg => rfl); (case hr => first | (go_simp; done) | (go_simp; rfl)); (case hp => exact (Reps.none _ _))
                   intro v298 w53 ho54 hb hg_ hnew_
                   clear hg_ hnew_
                   (first | rw [← Ny297.out] at ho54 | (simp only [Int.reduceToNat] at ho54; rw [← Ny297.out] at ho54))
                   replace HO293 := Aside0.mk (Kd.R_below (zr_ HO293.out) hb)
                   have HO299 := Aside0.mk (Kd.R_lower ho54 (below_size (zw3_ HB GE284 GE285 GE303)))
                   replace BK284 := Aside0.mk (zl_ BK284 hb)
                   replace BK285 := Aside0.mk (zl_ BK285 hb)
                   replace BK303 := Aside0.mk (zl_ BK303 hb)
                   replace HB := Aside0.mk (below_step (zw3_ HB GE284 GE285 GE303) hb)
                   clear hb ho54
                   refine hK.out _ _ ⟨(blk_cell BK284.out 0).trans rfl, (blk_cell BK284.out 1).trans rfl⟩ (fun hHeld => ?_)
                   clear hK K
                   refine zq_ (some 35) (h := ?_)
                   exact zj_ (hJ0_4_9 (v292, v298, gb303) _ ⟨hHeld, (zr_ HO293.out), (zr_ HO299.out), (zb_ BK284), (zb_ BK285), (zb_ BK303), GW303.out, GE303.out, NB284_303.out, NB303_284.out, NB285_303.out, NB303_285.out, (zw3_ HB GE284 GE285 GE303)⟩)
                ·skip
                 rintro ⟨v292, v298⟩ w53 ⟨hS_, h0_, h1_, h2_, h3_, h4_⟩
                 (try dsimp only at h0_ h1_ h2_ h3_ h4_)
                 clear BK284 BK285 HB
                 have HO293 := Aside0.mk h0_
                 have HO299 := Aside0.mk h1_
                 have BK284 := Aside0.mk h2_
                 have BK285 := Aside0.mk h3_
                 have HB := Aside0.mk h4_
                 clear h0_ h1_ h2_ h3_ h4_
                 have hHeld : w53.cell? ⟨gb284, 0, none⟩ = some (.slice A0_0 l0_0.length c0_0) ∧ w53.cell? ⟨gb284, 1, none⟩ = some (.slice A0_1 l0_1.length c0_1) := hS_
                 refine zi_ (h := ?_)
                 refine two_ (i := 3) (j := 9) (Ni := some 34) (Nj := some 5) #[true, true, true, true, true, true, true, false, false, false, false] #[true, true, true, false, true, true, true, false, false, true, false] rfl rfl rfl rfl (two_of HT_.out (by kernel_rfl)) (by decide) (by decide) (fun K hK => ?_) (fun K hK => ?_)
                 ·skip
                  refine Kd.R_append_rows_step (Kd.int .i64) (w0 := w) w.heap.size (by rfl) (.tmp 31) (.tmp 33) 22 3 (.int .i64 0) 8 rfl Try.underlying22 info3 rfl (by decide) (by omega) v292 y291 l0_0 _ _ _ (fun _ => True) (fun _ => False) rfl rfl ?aO ?aR (fun _ _ h => h) (fun _ h => h.elim) ?aF ?aB ?aS ?aL ?_
                  (case aR => exact zk_ (Kd.C_below HR0_0.out HB.out))
                  (case aB => exact (zw2_ HB GE284 GE285))
                  (case aF => exact (fun _ _ => trivial))
                  (case aO => exact (zr_ HO293.out))
                  (case aS => exact (below_size (zw2_ HB GE284 GE285)))
                  (case aL => have := LMc41.out; omega)
                  intro v295 w54 ho hb hg hat
                  rw [← Ny294.out] at ho
                  replace BK284 := Aside0.mk (zh_ BK284 hg (Kd.R_ne HO293.out BK284.out (by decide)))
                  replace BK285 := Aside0.mk (zh_ BK285 hg (Kd.R_ne HO293.out BK285.out (by decide)))
                  replace HO299 := Aside0.mk (Kd.R_over' (zr_ HO299.out) (Kd.R_typed (zr_ HO293.out)) (by decide) hg)
                  replace HB := Aside0.mk (hb)
                  have HO296 := Aside0.mk (ho)
                  clear HO293
                  clear ho hb hg hat
                  refine hK.out _ _ ⟨(blk_cell BK284.out 0).trans rfl, (blk_cell BK284.out 1).trans rfl⟩ (fun hHeld => ?_)
                  clear hK K
                  refine zq_ (some 34) (h := ?_)
                  exact zj_ (hJ0_3_4 (v292, v295, v298) _ ⟨hHeld, (zr_ HO296.out), (zr_ HO299.out), (zb_ BK284), (zb_ BK285), (zw2_ HB GE284 GE285)⟩)
                 ·skip
                  refine box_step ?hg (N := 5) ?hd (cs := #[.slice none 0 0, .slice none 0 0]) (t := 27) ?hr ?_; (case hd => rfl); (case hg => rfl); (case hr => first | (go_simp; done) | (go_simp; rfl))
                  intro gb303 hg w54 hbox hb
                  replace HO293 := Aside0.mk (Kd.R_below (zr_ HO293.out) hb)
                  replace HO299 := Aside0.mk (Kd.R_below (zr_ HO299.out) hb)
                  have BK303 := Aside0.mk (hbox)
                  have GW303 := Aside0.mk (zs_ hg (zw2_ HB GE284 GE285))
                  have GE303 := Aside0.mk (zs_ hg (zw2_ HB GE284 GE285))
                  replace HB := Aside0.mk (below_step (zw2_ HB GE284 GE285) hb)
                  have NB284_303 := Aside0.mk (zn_ hg BK284)
                  have NB303_284 := Aside0.mk (zm_ hg BK284)
                  replace BK284 := Aside0.mk (zl_ BK284 hb)
                  have NB285_303 := Aside0.mk (zn_ hg BK285)
                  have NB303_285 := Aside0.mk (zm_ hg BK285)
                  replace BK285 := Aside0.mk (zl_ BK285 hb)
                  clear hb hbox hg
                  refine hK.out _ _ ⟨(blk_cell BK284.out 0).trans rfl, (blk_cell BK284.out 1).trans rfl⟩ (fun hHeld => ?_)
                  clear hK K
                  refine zq_ (some 5) (h := ?_)
                  exact zj_ (hJ0_4_9 (v292, v298, gb303) _ ⟨hHeld, (zr_ HO293.out), (zr_ HO299.out), (zb_ BK284), (zb_ BK285), (zb_ BK303), GW303.out, GE303.out, NB284_303.out, NB303_284.out, NB285_303.out, NB303_285.out, (zw3_ HB GE284 GE285 GE303)⟩)
               ·skip
                rintro ⟨v292, v295⟩ w52 ⟨hS_, h0_, h1_, h2_, h3_⟩
                (try dsimp only at h0_ h1_ h2_ h3_)
                clear BK284 BK285 HB
                have HO296 := Aside0.mk h0_
                have BK284 := Aside0.mk h1_
                have BK285 := Aside0.mk h2_
                have HB := Aside0.mk h3_
                clear h0_ h1_ h2_ h3_
                have hHeld : w52.cell? ⟨gb284, 0, none⟩ = some (.slice A0_0 l0_0.length c0_0) ∧ w52.cell? ⟨gb284, 1, none⟩ = some (.slice A0_1 l0_1.length c0_1) := hS_
                refine zi_ (h := ?_)
                refine two_ (i := 4) (j := 9) (Ni := some 35) (Nj := some 5) #[true, true, true, true, true, true, true, false, false, false, false] #[true, true, true, true, false, true, true, false, false, true, false] rfl rfl rfl rfl (two_of HT_.out (by kernel_rfl)) (by decide) (by decide) (fun K hK => ?_) (fun K hK => ?_)
                ·skip
                 refine Kd.R_lit_step (Kd.int .i64) _ 23 ?hg (N := 35) ?hd (xs := ([] : List Int)) (inner := []) (ok := fun _ => True) (okp := fun _ => True) ?hr ?hp (fun _ hk => hk) trivial (Below.refl _ _) (Nat.le_refl _) (by simp) ?_; (case hd => rfl); (case hg => rfl); (case hr => first | (go_simp; done) | (go_simp; rfl)); (case hp => exact (Reps.none _ _))
                 intro v298 w53 ho54 hb hg_ hnew_
                 clear hg_ hnew_
                 (first | rw [← Ny297.out] at ho54 | (simp only [Int.reduceToNat] at ho54; rw [← Ny297.out] at ho54))
                 replace HO296 := Aside0.mk (Kd.R_below (zr_ HO296.out) hb)
                 have HO299 := Aside0.mk (Kd.R_lower ho54 (below_size (zw2_ HB GE284 GE285)))
                 replace BK284 := Aside0.mk (zl_ BK284 hb)
                 replace BK285 := Aside0.mk (zl_ BK285 hb)
                 replace HB := Aside0.mk (below_step (zw2_ HB GE284 GE285) hb)
                 clear hb ho54
                 refine hK.out _ _ ⟨(blk_cell BK284.out 0).trans rfl, (blk_cell BK284.out 1).trans rfl⟩ (fun hHeld => ?_)
                 clear hK K
                 refine zq_ (some 35) (h := ?_)
                 exact zj_ (hJ0_3_4 (v292, v295, v298) _ ⟨hHeld, (zr_ HO296.out), (zr_ HO299.out), (zb_ BK284), (zb_ BK285), (zw2_ HB GE284 GE285)⟩)
                ·skip
                 refine box_step ?hg (N := 5) ?hd (cs := #[.slice none 0 0, .slice none 0 0]) (t := 27) ?hr ?_; (case hd => rfl); (case hg => rfl); (case hr => first | (go_simp; done) | (go_simp; rfl))
                 intro gb303 hg w53 hbox hb
                 replace HO296 := Aside0.mk (Kd.R_below (zr_ HO296.out) hb)
                 have BK303 := Aside0.mk (hbox)
                 have GW303 := Aside0.mk (zs_ hg (zw2_ HB GE284 GE285))
                 have GE303 := Aside0.mk (zs_ hg (zw2_ HB GE284 GE285))
                 replace HB := Aside0.mk (below_step (zw2_ HB GE284 GE285) hb)
                 have NB284_303 := Aside0.mk (zn_ hg BK284)
                 have NB303_284 := Aside0.mk (zm_ hg BK284)
                 replace BK284 := Aside0.mk (zl_ BK284 hb)
                 have NB285_303 := Aside0.mk (zn_ hg BK285)
                 have NB303_285 := Aside0.mk (zm_ hg BK285)
                 replace BK285 := Aside0.mk (zl_ BK285 hb)
                 clear hb hbox hg
                 refine hK.out _ _ ⟨(blk_cell BK284.out 0).trans rfl, (blk_cell BK284.out 1).trans rfl⟩ (fun hHeld => ?_)
                 clear hK K
                 refine zq_ (some 5) (h := ?_)
                 exact zj_ (hJ0_3_9 (v292, v295, gb303) _ ⟨hHeld, (zr_ HO296.out), (zb_ BK284), (zb_ BK285), (zb_ BK303), GW303.out, GE303.out, NB284_303.out, NB303_284.out, NB285_303.out, NB303_285.out, (zw3_ HB GE284 GE285 GE303)⟩)
              ·skip
               rintro ⟨v292, v298, gb303⟩ w54 ⟨hS_, h0_, h1_, h2_, h3_, h4_, h5_, h6_, h7_, h8_, h9_, h10_, h11_⟩
               (try dsimp only at h0_ h1_ h2_ h3_ h4_ h5_ h6_ h7_ h8_ h9_ h10_ h11_)
               clear BK284 BK285 HB
               have HO293 := Aside0.mk h0_
               have HO299 := Aside0.mk h1_
               have BK284 := Aside0.mk h2_
               have BK285 := Aside0.mk h3_
               have BK303 := Aside0.mk h4_
               have GW303 := Aside0.mk h5_
               have GE303 := Aside0.mk h6_
               have NB284_303 := Aside0.mk h7_
               have NB303_284 := Aside0.mk h8_
               have NB285_303 := Aside0.mk h9_
               have NB303_285 := Aside0.mk h10_
               have HB := Aside0.mk h11_
               clear h0_ h1_ h2_ h3_ h4_ h5_ h6_ h7_ h8_ h9_ h10_ h11_
               have hHeld : w54.cell? ⟨gb284, 0, none⟩ = some (.slice A0_0 l0_0.length c0_0) ∧ w54.cell? ⟨gb284, 1, none⟩ = some (.slice A0_1 l0_1.length c0_1) := hS_
               refine zi_ (h := ?_)
               refine one_ (i := 3) (N := some 34) #[true, true, true, true, true, true, true, false, false, true, false] rfl rfl (one_of HT_.out (by kernel_rfl)) (by decide) (fun K hK => ?_)
               refine Kd.R_append_rows_step (Kd.int .i64) (w0 := w) w.heap.size (by rfl) (.tmp 31) (.tmp 33) 22 3 (.int .i64 0) 8 rfl Try.underlying22 info3 rfl (by decide) (by omega) v292 y291 l0_0 _ _ _ (fun _ => True) (fun _ => False) rfl rfl ?aO ?aR (fun _ _ h => h) (fun _ h => h.elim) ?aF ?aB ?aS ?aL ?_
               (case aR => exact zk_ (Kd.C_below HR0_0.out HB.out))
               (case aB => exact (zw3_ HB GE284 GE285 GE303))
               (case aF => exact (fun _ _ => trivial))
               (case aO => exact (zr_ HO293.out))
               (case aS => exact (below_size (zw3_ HB GE284 GE285 GE303)))
               (case aL => have := LMc41.out; omega)
               intro v295 w55 ho hb hg hat
               rw [← Ny294.out] at ho
               replace BK284 := Aside0.mk (zh_ BK284 hg (Kd.R_ne HO293.out BK284.out (by decide)))
               replace BK285 := Aside0.mk (zh_ BK285 hg (Kd.R_ne HO293.out BK285.out (by decide)))
               replace HO299 := Aside0.mk (Kd.R_over' (zr_ HO299.out) (Kd.R_typed (zr_ HO293.out)) (by decide) hg)
               replace BK303 := Aside0.mk (zh_ BK303 hg (Kd.R_ne HO293.out BK303.out (by decide)))
               replace HB := Aside0.mk (hb)
               have HO296 := Aside0.mk (ho)
               clear HO293
               clear ho hb hg hat
               refine hK.out _ _ ⟨(blk_cell BK284.out 0).trans rfl, (blk_cell BK284.out 1).trans rfl⟩ (fun hHeld => ?_)
               clear hK K
               refine zq_ (some 34) (h := ?_)
               exact zj_ (hJ0_3_4_9 (v292, v295, v298, gb303) _ ⟨hHeld, (zr_ HO296.out), (zr_ HO299.out), (zb_ BK284), (zb_ BK285), (zb_ BK303), GW303.out, GE303.out, NB284_303.out, NB303_284.out, NB285_303.out, NB303_285.out, (zw3_ HB GE284 GE285 GE303)⟩)
             ·skip
              rintro ⟨v292, v295, gb303⟩ w53 ⟨hS_, h0_, h1_, h2_, h3_, h4_, h5_, h6_, h7_, h8_, h9_, h10_⟩
              (try dsimp only at h0_ h1_ h2_ h3_ h4_ h5_ h6_ h7_ h8_ h9_ h10_)
              clear BK284 BK285 HB
              have HO296 := Aside0.mk h0_
              have BK284 := Aside0.mk h1_
              have BK285 := Aside0.mk h2_
              have BK303 := Aside0.mk h3_
              have GW303 := Aside0.mk h4_
              have GE303 := Aside0.mk h5_
              have NB284_303 := Aside0.mk h6_
              have NB303_284 := Aside0.mk h7_
              have NB285_303 := Aside0.mk h8_
              have NB303_285 := Aside0.mk h9_
              have HB := Aside0.mk h10_
              clear h0_ h1_ h2_ h3_ h4_ h5_ h6_ h7_ h8_ h9_ h10_
              have hHeld : w53.cell? ⟨gb284, 0, none⟩ = some (.slice A0_0 l0_0.length c0_0) ∧ w53.cell? ⟨gb284, 1, none⟩ = some (.slice A0_1 l0_1.length c0_1) := hS_
              refine zi_ (h := ?_)
              refine one_ (i := 4) (N := some 35) #[true, true, true, true, true, true, true, false, false, true, false] rfl rfl (one_of HT_.out (by kernel_rfl)) (by decide) (fun K hK => ?_)
              refine Kd.R_lit_step (Kd.int .i64) _ 23 ?hg (N := 35) ?hd (xs := ([] : List Int)) (inner := []) (ok := fun _ => True) (okp := fun _ => True) ?hr ?hp (fun _ hk => hk) trivial (Below.refl _ _) (Nat.le_refl _) (by simp) ?_; (case hd => rfl); (case hg => rfl); (case hr => first | (go_simp; done) | (go_simp; rfl)); (case hp => exact (Reps.none _ _))
              intro v298 w54 ho55 hb hg_ hnew_
              clear hg_ hnew_
              (first | rw [← Ny297.out] at ho55 | (simp only [Int.reduceToNat] at ho55; rw [← Ny297.out] at ho55))
              replace HO296 := Aside0.mk (Kd.R_below (zr_ HO296.out) hb)
              have HO299 := Aside0.mk (Kd.R_lower ho55 (below_size (zw3_ HB GE284 GE285 GE303)))
              replace BK284 := Aside0.mk (zl_ BK284 hb)
              replace BK285 := Aside0.mk (zl_ BK285 hb)
              replace BK303 := Aside0.mk (zl_ BK303 hb)
              replace HB := Aside0.mk (below_step (zw3_ HB GE284 GE285 GE303) hb)
              clear hb ho55
              refine hK.out _ _ ⟨(blk_cell BK284.out 0).trans rfl, (blk_cell BK284.out 1).trans rfl⟩ (fun hHeld => ?_)
              clear hK K
              refine zq_ (some 35) (h := ?_)
              exact zj_ (hJ0_3_4_9 (v292, v295, v298, gb303) _ ⟨hHeld, (zr_ HO296.out), (zr_ HO299.out), (zb_ BK284), (zb_ BK285), (zb_ BK303), GW303.out, GE303.out, NB284_303.out, NB303_284.out, NB285_303.out, NB303_285.out, (zw3_ HB GE284 GE285 GE303)⟩)
            ·skip
             rintro ⟨v292, v295, v298⟩ w54 ⟨hS_, h0_, h1_, h2_, h3_, h4_⟩
             (try dsimp only at h0_ h1_ h2_ h3_ h4_)
             clear BK284 BK285 HB
             have HO296 := Aside0.mk h0_
             have HO299 := Aside0.mk h1_
             have BK284 := Aside0.mk h2_
             have BK285 := Aside0.mk h3_
             have HB := Aside0.mk h4_
             clear h0_ h1_ h2_ h3_ h4_
             have hHeld : w54.cell? ⟨gb284, 0, none⟩ = some (.slice A0_0 l0_0.length c0_0) ∧ w54.cell? ⟨gb284, 1, none⟩ = some (.slice A0_1 l0_1.length c0_1) := hS_
             refine zi_ (h := ?_)
             refine two_ (i := 7) (j := 9) (Ni := some 38) (Nj := some 5) #[true, true, true, true, true, true, true, true, false, false, false] #[true, true, true, true, true, true, true, false, false, true, false] rfl rfl rfl rfl (two_of HT_.out (by kernel_rfl)) (by decide) (by decide) (fun K hK => ?_) (fun K hK => ?_)
             ·skip
              refine Kd.R_append_rows_step (Kd.int .i64) (w0 := w) w.heap.size (by rfl) (.tmp 35) (.tmp 37) 25 23 (.int .i64 0) 8 rfl Try.underlying25 info23 rfl (by decide) (by omega) v298 y297 l0_1 _ _ _ (fun _ => True) (fun _ => False) rfl rfl ?aO ?aR (fun _ _ h => h) (fun _ h => h.elim) ?aF ?aB ?aS ?aL ?_
              (case aR => exact zk_ (Kd.C_below HR0_1.out HB.out))
              (case aB => exact (zw2_ HB GE284 GE285))
              (case aF => exact (fun _ _ => trivial))
              (case aO => exact (zr_ HO299.out))
              (case aS => exact (below_size (zw2_ HB GE284 GE285)))
              (case aL => have := LMc42.out; omega)
              intro v301 w55 ho hb hg hat
              rw [← Ny300.out] at ho
              replace BK284 := Aside0.mk (zh_ BK284 hg (Kd.R_ne HO299.out BK284.out (by decide)))
              replace BK285 := Aside0.mk (zh_ BK285 hg (Kd.R_ne HO299.out BK285.out (by decide)))
              replace HO296 := Aside0.mk (Kd.R_over' (zr_ HO296.out) (Kd.R_typed (zr_ HO299.out)) (by decide) hg)
              replace HB := Aside0.mk (hb)
              have HO302 := Aside0.mk (ho)
              clear HO299
              clear ho hb hg hat
              obtain ⟨Ao56, co56, eo56⟩ := Kd.R_slice HO302.out
              (first | subst eo56 | (injection eo56 with f1_ f2_ f3_; have f4_ := f1_.symm; have f5_ := f3_.symm; clear f1_ f2_ f3_; subst f4_; subst f5_))
              obtain ⟨Ao57, co57, eo57⟩ := Kd.R_slice HO296.out
              (first | subst eo57 | (injection eo57 with f1_ f2_ f3_; have f4_ := f1_.symm; have f5_ := f3_.symm; clear f1_ f2_ f3_; subst f4_; subst f5_))
              refine hK.out _ _ ⟨(blk_cell BK284.out 0).trans rfl, (blk_cell BK284.out 1).trans rfl⟩ (fun hHeld => ?_)
              clear hK K
              refine zq_ (some 38) (h := ?_)
              refine zp_ 8 (some 39) (h := ?_)
              exact zj_ (hJ0_3_4_7 (v292, .slice Ao57 y294.length co57, v298, .slice Ao56 y300.length co56) _ ⟨hHeld, (zr_ HO296.out), (zr_ HO302.out), (zb_ BK284), (zb_ BK285), (zw2_ HB GE284 GE285)⟩)
             ·skip
              refine box_step ?hg (N := 5) ?hd (cs := #[.slice none 0 0, .slice none 0 0]) (t := 27) ?hr ?_; (case hd => rfl); (case hg => rfl); (case hr => first | (go_simp; done) | (go_simp; rfl))
              intro gb303 hg w55 hbox hb
              replace HO296 := Aside0.mk (Kd.R_below (zr_ HO296.out) hb)
              replace HO299 := Aside0.mk (Kd.R_below (zr_ HO299.out) hb)
              have BK303 := Aside0.mk (hbox)
              have GW303 := Aside0.mk (zs_ hg (zw2_ HB GE284 GE285))
              have GE303 := Aside0.mk (zs_ hg (zw2_ HB GE284 GE285))
              replace HB := Aside0.mk (below_step (zw2_ HB GE284 GE285) hb)
              have NB284_303 := Aside0.mk (zn_ hg BK284)
              have NB303_284 := Aside0.mk (zm_ hg BK284)
              replace BK284 := Aside0.mk (zl_ BK284 hb)
              have NB285_303 := Aside0.mk (zn_ hg BK285)
              have NB303_285 := Aside0.mk (zm_ hg BK285)
              replace BK285 := Aside0.mk (zl_ BK285 hb)
              clear hb hbox hg
              refine hK.out _ _ ⟨(blk_cell BK284.out 0).trans rfl, (blk_cell BK284.out 1).trans rfl⟩ (fun hHeld => ?_)
              clear hK K
              refine zq_ (some 5) (h := ?_)
              exact zj_ (hJ0_3_4_9 (v292, v295, v298, gb303) _ ⟨hHeld, (zr_ HO296.out), (zr_ HO299.out), (zb_ BK284), (zb_ BK285), (zb_ BK303), GW303.out, GE303.out, NB284_303.out, NB303_284.out, NB285_303.out, NB303_285.out, (zw3_ HB GE284 GE285 GE303)⟩)
           ·skip
            rintro ⟨v292, v295, v298, gb303⟩ w55 ⟨hS_, h0_, h1_, h2_, h3_, h4_, h5_, h6_, h7_, h8_, h9_, h10_, h11_⟩
            (try dsimp only at h0_ h1_ h2_ h3_ h4_ h5_ h6_ h7_ h8_ h9_ h10_ h11_)
            clear BK284 BK285 HB
            have HO296 := Aside0.mk h0_
            have HO299 := Aside0.mk h1_
            have BK284 := Aside0.mk h2_
            have BK285 := Aside0.mk h3_
            have BK303 := Aside0.mk h4_
            have GW303 := Aside0.mk h5_
            have GE303 := Aside0.mk h6_
            have NB284_303 := Aside0.mk h7_
            have NB303_284 := Aside0.mk h8_
            have NB285_303 := Aside0.mk h9_
            have NB303_285 := Aside0.mk h10_
            have HB := Aside0.mk h11_
            clear h0_ h1_ h2_ h3_ h4_ h5_ h6_ h7_ h8_ h9_ h10_ h11_
            have hHeld : w55.cell? ⟨gb284, 0, none⟩ = some (.slice A0_0 l0_0.length c0_0) ∧ w55.cell? ⟨gb284, 1, none⟩ = some (.slice A0_1 l0_1.length c0_1) := hS_
            refine zi_ (h := ?_)
            refine one_ (i := 7) (N := some 38) #[true, true, true, true, true, true, true, true, false, true, false] rfl rfl (one_of HT_.out (by kernel_rfl)) (by decide) (fun K hK => ?_)
            refine Kd.R_append_rows_step (Kd.int .i64) (w0 := w) w.heap.size (by rfl) (.tmp 35) (.tmp 37) 25 23 (.int .i64 0) 8 rfl Try.underlying25 info23 rfl (by decide) (by omega) v298 y297 l0_1 _ _ _ (fun _ => True) (fun _ => False) rfl rfl ?aO ?aR (fun _ _ h => h) (fun _ h => h.elim) ?aF ?aB ?aS ?aL ?_
            (case aR => exact zk_ (Kd.C_below HR0_1.out HB.out))
            (case aB => exact (zw3_ HB GE284 GE285 GE303))
            (case aF => exact (fun _ _ => trivial))
            (case aO => exact (zr_ HO299.out))
            (case aS => exact (below_size (zw3_ HB GE284 GE285 GE303)))
            (case aL => have := LMc42.out; omega)
            intro v301 w56 ho hb hg hat
            rw [← Ny300.out] at ho
            replace BK284 := Aside0.mk (zh_ BK284 hg (Kd.R_ne HO299.out BK284.out (by decide)))
            replace BK285 := Aside0.mk (zh_ BK285 hg (Kd.R_ne HO299.out BK285.out (by decide)))
            replace HO296 := Aside0.mk (Kd.R_over' (zr_ HO296.out) (Kd.R_typed (zr_ HO299.out)) (by decide) hg)
            replace BK303 := Aside0.mk (zh_ BK303 hg (Kd.R_ne HO299.out BK303.out (by decide)))
            replace HB := Aside0.mk (hb)
            have HO302 := Aside0.mk (ho)
            clear HO299
            clear ho hb hg hat
            obtain ⟨Ao57, co57, eo57⟩ := Kd.R_slice HO302.out
            (first | subst eo57 | (injection eo57 with f1_ f2_ f3_; have f4_ := f1_.symm; have f5_ := f3_.symm; clear f1_ f2_ f3_; subst f4_; subst f5_))
            obtain ⟨Ao58, co58, eo58⟩ := Kd.R_slice HO296.out
            (first | subst eo58 | (injection eo58 with f1_ f2_ f3_; have f4_ := f1_.symm; have f5_ := f3_.symm; clear f1_ f2_ f3_; subst f4_; subst f5_))
            refine hK.out _ _ ⟨(blk_cell BK284.out 0).trans rfl, (blk_cell BK284.out 1).trans rfl⟩ (fun hHeld => ?_)
            clear hK K
            refine zq_ (some 38) (h := ?_)
            refine zp_ 8 (some 39) (h := ?_)
            exact zj_ (hJ0_3_4_7_9 (v292, .slice Ao58 y294.length co58, v298, .slice Ao57 y300.length co57, gb303) _ ⟨hHeld, (zr_ HO296.out), (zr_ HO302.out), (zb_ BK284), (zb_ BK285), (zb_ BK303), GW303.out, GE303.out, NB284_303.out, NB303_284.out, NB285_303.out, NB303_285.out, (zw3_ HB GE284 GE285 GE303)⟩)
          ·skip
           rintro ⟨v292, v295, v298, v301⟩ w57 ⟨hS_, h0_, h1_, h2_, h3_, h4_⟩
           (try dsimp only at h0_ h1_ h2_ h3_ h4_)
           clear BK284 BK285 HB
           have HO296 := Aside0.mk h0_
           have HO302 := Aside0.mk h1_
           have BK284 := Aside0.mk h2_
           have BK285 := Aside0.mk h3_
           have HB := Aside0.mk h4_
           clear h0_ h1_ h2_ h3_ h4_
           have hHeld : w57.cell? ⟨gb284, 0, none⟩ = some (.slice A0_0 l0_0.length c0_0) ∧ w57.cell? ⟨gb284, 1, none⟩ = some (.slice A0_1 l0_1.length c0_1) := hS_
           obtain ⟨Ao58, co58, eo58⟩ := Kd.R_slice HO302.out
           (first | subst eo58 | (injection eo58 with f1_ f2_ f3_; have f4_ := f1_.symm; have f5_ := f3_.symm; clear f1_ f2_ f3_; subst f4_; subst f5_))
           obtain ⟨Ao59, co59, eo59⟩ := Kd.R_slice HO296.out
           (first | subst eo59 | (injection eo59 with f1_ f2_ f3_; have f4_ := f1_.symm; have f5_ := f3_.symm; clear f1_ f2_ f3_; subst f4_; subst f5_))
           refine zi_ (h := ?_)
           refine one_ (i := 9) (N := some 5) #[true, true, true, true, true, true, true, true, true, true, false] rfl rfl (one_of HT_.out (by kernel_rfl)) (by decide) (fun K hK => ?_)
           refine box_step ?hg (N := 5) ?hd (cs := #[.slice none 0 0, .slice none 0 0]) (t := 27) ?hr ?_; (case hd => rfl); (case hg => rfl); (case hr => first | (go_simp; done) | (go_simp; rfl))
           intro gb303 hg w60 hbox hb
           replace HO296 := Aside0.mk (Kd.R_below (zr_ HO296.out) hb)
           replace HO302 := Aside0.mk (Kd.R_below (zr_ HO302.out) hb)
           have BK303 := Aside0.mk (hbox)
           have GW303 := Aside0.mk (zs_ hg (zw2_ HB GE284 GE285))
           have GE303 := Aside0.mk (zs_ hg (zw2_ HB GE284 GE285))
           replace HB := Aside0.mk (below_step (zw2_ HB GE284 GE285) hb)
           have NB284_303 := Aside0.mk (zn_ hg BK284)
           have NB303_284 := Aside0.mk (zm_ hg BK284)
           replace BK284 := Aside0.mk (zl_ BK284 hb)
           have NB285_303 := Aside0.mk (zn_ hg BK285)
           have NB303_285 := Aside0.mk (zm_ hg BK285)
           replace BK285 := Aside0.mk (zl_ BK285 hb)
           clear hb hbox hg
           refine hK.out _ _ ⟨(blk_cell BK284.out 0).trans rfl, (blk_cell BK284.out 1).trans rfl⟩ (fun hHeld => ?_)
           clear hK K
           refine zq_ (some 5) (h := ?_)
           exact zj_ (hJ0_3_4_7_9 (v292, .slice Ao59 y294.length co59, v298, .slice Ao58 y300.length co58, gb303) _ ⟨hHeld, (zr_ HO296.out), (zr_ HO302.out), (zb_ BK284), (zb_ BK285), (zb_ BK303), GW303.out, GE303.out, NB284_303.out, NB303_284.out, NB285_303.out, NB303_285.out, (zw3_ HB GE284 GE285 GE303)⟩)
         rintro ⟨v292, v295, v298, v301, gb303⟩ w58 ⟨hS_, h0_, h1_, h2_, h3_, h4_, h5_, h6_, h7_, h8_, h9_, h10_, h11_⟩
         (try dsimp only at h0_ h1_ h2_ h3_ h4_ h5_ h6_ h7_ h8_ h9_ h10_ h11_)
         clear BK284 BK285 HB
         have HO296 := Aside0.mk h0_
         have HO302 := Aside0.mk h1_
         have BK284 := Aside0.mk h2_
         have BK285 := Aside0.mk h3_
         have BK303 := Aside0.mk h4_
         have GW303 := Aside0.mk h5_
         have GE303 := Aside0.mk h6_
         have NB284_303 := Aside0.mk h7_
         have NB303_284 := Aside0.mk h8_
         have NB285_303 := Aside0.mk h9_
         have NB303_285 := Aside0.mk h10_
         have HB := Aside0.mk h11_
         clear h0_ h1_ h2_ h3_ h4_ h5_ h6_ h7_ h8_ h9_ h10_ h11_
         have hHeld : w58.cell? ⟨gb284, 0, none⟩ = some (.slice A0_0 l0_0.length c0_0) ∧ w58.cell? ⟨gb284, 1, none⟩ = some (.slice A0_1 l0_1.length c0_1) := hS_
         obtain ⟨Ao59, co59, eo59⟩ := Kd.R_slice HO302.out
         (first | subst eo59 | (injection eo59 with f1_ f2_ f3_; have f4_ := f1_.symm; have f5_ := f3_.symm; clear f1_ f2_ f3_; subst f4_; subst f5_))
         obtain ⟨Ao60, co60, eo60⟩ := Kd.R_slice HO296.out
         (first | subst eo60 | (injection eo60 with f1_ f2_ f3_; have f4_ := f1_.symm; have f5_ := f3_.symm; clear f1_ f2_ f3_; subst f4_; subst f5_))
         refine zi_ (h := ?_)
         refine one_ (i := 10) (N := none) #[true, true, true, true, true, true, true, true, true, true, true] rfl rfl (one_of HT_.out (by kernel_rfl)) (by decide) (fun K hK => ?_)
         have hs61 := zx_ (v := .slice none 0 0) BK303 0
         have hfs61 := blk_frozen BK303.out 0
         have hns61_0 := NB284_303.out
         have hns61_1 := NB285_303.out
         have hms61_0 := NB303_284.out
         have hms61_1 := NB303_285.out
         have hs62 := zx_ (v := .slice none 0 0) BK303 1
         have hfs62 := blk_frozen BK303.out 1
         have hns62_0 := NB284_303.out
         have hns62_1 := NB285_303.out
         have hms62_0 := NB303_284.out
         have hms62_1 := NB303_285.out
         refine skip_ (w1 := ?_) (by rfl) rfl ?_ ?_
         rotate_left
         ·go_simp
          rfl
         refine hK.out _ _ ⟨((cell_far (p := ⟨gb303, _, none⟩) NB284_303.out _).trans (((cell_far (p := ⟨gb303, _, none⟩) NB284_303.out _).trans (hHeld.1)))), ((cell_far (p := ⟨gb303, _, none⟩) NB284_303.out _).trans (((cell_far (p := ⟨gb303, _, none⟩) NB284_303.out _).trans (hHeld.2))))⟩ (fun hHeld => ?_)
         clear hK K
         refine done_ (done_of HT_.out (by kernel_rfl)) ?_
         try go_wp2
         have n0_ : Aside0 (Kd.R (Kd.int .i64) 3 ((w58.setCell ⟨gb303, 0, none⟩ (.slice Ao60 y294.length co60)).setCell ⟨gb303, 1, none⟩ (.slice Ao59 y300.length co59)) w.heap.size (fun _ => True) (.slice Ao60 y294.length co60) y294) := ⟨zr_ (Kd.R_mono (Kd.R_far (p := ⟨gb303, 1, none⟩) (Kd.R_far (p := ⟨gb303, 0, none⟩) (Kd.R_types HO296.out BK303.out (by decide)) (fun _ hk => hk.2) (.slice Ao60 y294.length co60)) (fun _ hk => hk.2) (.slice Ao59 y300.length co59)) (fun _ hk => trivial))⟩
         have n1_ : Aside0 (Kd.R (Kd.int .i64) 23 ((w58.setCell ⟨gb303, 0, none⟩ (.slice Ao60 y294.length co60)).setCell ⟨gb303, 1, none⟩ (.slice Ao59 y300.length co59)) w.heap.size (fun _ => True) (.slice Ao59 y300.length co59) y300) := ⟨zr_ (Kd.R_mono (Kd.R_far (p := ⟨gb303, 1, none⟩) (Kd.R_far (p := ⟨gb303, 0, none⟩) (Kd.R_types HO302.out BK303.out (by decide)) (fun _ hk => hk.2) (.slice Ao60 y294.length co60)) (fun _ hk => hk.2) (.slice Ao59 y300.length co59)) (fun _ hk => trivial))⟩
         have n2_ : Aside0 (((w58.setCell ⟨gb303, 0, none⟩ (.slice Ao60 y294.length co60)).setCell ⟨gb303, 1, none⟩ (.slice Ao59 y300.length co59)).heap[gb284]? = some (.cells #[.slice A0_0 l0_0.length c0_0, .slice A0_1 l0_1.length c0_1] 27 (0, 0))) := ⟨by (with_reducible repeat (first | refine blk_drewN ?_ _ | refine blk_drew ?_ | refine blk_alloc ?_ _)); refine blk_far ?_ NB284_303.out _; (with_reducible repeat (first | refine blk_drewN ?_ _ | refine blk_drew ?_ | refine blk_alloc ?_ _)); refine blk_far ?_ NB284_303.out _; (with_reducible repeat (first | refine blk_drewN ?_ _ | refine blk_drew ?_ | refine blk_alloc ?_ _)); exact BK284.out⟩
         have n3_ : Aside0 (((w58.setCell ⟨gb303, 0, none⟩ (.slice Ao60 y294.length co60)).setCell ⟨gb303, 1, none⟩ (.slice Ao59 y300.length co59)).heap[gb285]? = some (.cells #[.slice A1_0 l1_0.length c1_0, .slice A1_1 l1_1.length c1_1] 27 (0, 0))) := ⟨by (with_reducible repeat (first | refine blk_drewN ?_ _ | refine blk_drew ?_ | refine blk_alloc ?_ _)); refine blk_far ?_ NB285_303.out _; (with_reducible repeat (first | refine blk_drewN ?_ _ | refine blk_drew ?_ | refine blk_alloc ?_ _)); refine blk_far ?_ NB285_303.out _; (with_reducible repeat (first | refine blk_drewN ?_ _ | refine blk_drew ?_ | refine blk_alloc ?_ _)); exact BK285.out⟩
         have n4_ : Aside0 (((w58.setCell ⟨gb303, 0, none⟩ (.slice Ao60 y294.length co60)).setCell ⟨gb303, 1, none⟩ (.slice Ao59 y300.length co59)).heap[gb303]? = some (.cells #[.slice Ao60 y294.length co60, .slice Ao59 y300.length co59] 27 (0, 0))) := ⟨by (with_reducible repeat (first | refine blk_drewN ?_ _ | refine blk_drew ?_ | refine blk_alloc ?_ _)); refine blk_put (cs := #[.slice Ao60 y294.length co60, .slice none 0 0]) ?_ 1 _ rfl; (with_reducible repeat (first | refine blk_drewN ?_ _ | refine blk_drew ?_ | refine blk_alloc ?_ _)); refine blk_put (cs := #[.slice none 0 0, .slice none 0 0]) ?_ 0 _ rfl; (with_reducible repeat (first | refine blk_drewN ?_ _ | refine blk_drew ?_ | refine blk_alloc ?_ _)); exact BK303.out⟩
         have n5_ : Aside0 (Below w.heap.size w ((w58.setCell ⟨gb303, 0, none⟩ (.slice Ao60 y294.length co60)).setCell ⟨gb303, 1, none⟩ (.slice Ao59 y300.length co59))) := ⟨zw3_ HB GE284 GE285 GE303⟩
         (try clear HO296)
         (try clear HO302)
         (try clear BK284)
         (try clear BK285)
         (try clear BK303)
         (try clear HB)
         generalize ((w58.setCell ⟨gb303, 0, none⟩ (.slice Ao60 y294.length co60)).setCell ⟨gb303, 1, none⟩ (.slice Ao59 y300.length co59)) = w63 at n0_ n1_ n2_ n3_ n4_ n5_ ⊢
         have HO296 := n0_
         have HO302 := n1_
         have BK284 := n2_
         have BK285 := n3_
         have BK303 := n4_
         have HB := n5_
         clear n0_ n1_ n2_ n3_ n4_ n5_
         replace HO296 := Aside0.mk (Kd.R_drew HO296.out)
         replace HO302 := Aside0.mk (Kd.R_drew HO302.out)
         replace BK284 := Aside0.mk (blk_drew BK284.out)
         replace BK285 := Aside0.mk (blk_drew BK285.out)
         replace BK303 := Aside0.mk (blk_drew BK303.out)
         replace HB := Aside0.mk (below_drew1 HB.out)
         refine start_ (n := 11) (S := fun w' => w'.cell? ⟨gb285, 0, none⟩ = some (.slice A1_0 l1_0.length c1_0) ∧ w'.cell? ⟨gb285, 1, none⟩ = some (.slice A1_1 l1_1.length c1_1)) (ds := []) #[false, false, false, false, false, false, false, false, false, false, false] (by kernel_rfl) rfl rfl ⟨(blk_cell BK285.out 0).trans rfl, (blk_cell BK285.out 1).trans rfl⟩ (fun hHeld => ?_); refine with_tabW carousellaw6_TensKeeps.tab6 carousellaw6_TensKeeps.bits6 (fun HT_ HW_ => ?_)
         generalize w63.drew = w64 at HO296 HO302 BK284 BK285 BK303 HB hHeld ⊢
         refine zp_ 1 (some 41) (h := ?_)
         refine zp_ 5 (some 45) (h := ?_)
         refine zt_ 2 (some 42) (hr := by rintro w' ⟨s0, s1⟩; go_simp; with_reducible rfl) (h := ?_)
         refine zt_ 6 (some 46) (hr := by rintro w' ⟨s0, s1⟩; go_simp; with_reducible rfl) (h := ?_)
         refine join_ (σ := Value × Value × Value × Value × Nat) 1 #[true, true, true, true, true, true, true, true, true, true, false] (fun s_ => [(40, s_.1), (43, s_.2.1), (44, s_.2.2.1), (47, s_.2.2.2.1), (6, .pointer (some ⟨s_.2.2.2.2, 0, none⟩)), (48, .agg #[s_.2.1, s_.2.2.2.1])]) (fun s_ w' => (w'.cell? ⟨gb285, 0, none⟩ = some (.slice A1_0 l1_0.length c1_0) ∧ w'.cell? ⟨gb285, 1, none⟩ = some (.slice A1_1 l1_1.length c1_1)) ∧ (Kd.R (Kd.int .i64) 3 w' w.heap.size (fun k_ => some k_ ≠ (s_.2.1 : Value).ownBlock) (.slice Ao60 y294.length co60) y294) ∧ (Kd.R (Kd.int .i64) 23 w' w.heap.size (fun k_ => some k_ ≠ (s_.2.2.2.1 : Value).ownBlock) (.slice Ao59 y300.length co59) y300) ∧ (Kd.R (Kd.int .i64) 3 w' w.heap.size (fun k_ => some k_ ≠ (.slice Ao60 y294.length co60 : Value).ownBlock) s_.2.1 y307) ∧ (Kd.R (Kd.int .i64) 23 w' w.heap.size (fun k_ => some k_ ≠ (.slice Ao59 y300.length co59 : Value).ownBlock) s_.2.2.2.1 y313) ∧ (w'.heap[gb284]? = some (.cells #[.slice A0_0 l0_0.length c0_0, .slice A0_1 l0_1.length c0_1] 27 (0, 0))) ∧ (w'.heap[gb285]? = some (.cells #[.slice A1_0 l1_0.length c1_0, .slice A1_1 l1_1.length c1_1] 27 (0, 0))) ∧ (w'.heap[gb303]? = some (.cells #[.slice Ao60 y294.length co60, .slice Ao59 y300.length co59] 27 (0, 0))) ∧ (w'.heap[s_.2.2.2.2]? = some (.cells #[.slice none 0 0, .slice none 0 0] 27 (0, 0))) ∧ (w.heap.size ≤ s_.2.2.2.2) ∧ (w.heap.size ≤ s_.2.2.2.2) ∧ (gb284 ≠ s_.2.2.2.2) ∧ (s_.2.2.2.2 ≠ gb284) ∧ (gb285 ≠ s_.2.2.2.2) ∧ (s_.2.2.2.2 ≠ gb285) ∧ (gb303 ≠ s_.2.2.2.2) ∧ (s_.2.2.2.2 ≠ gb303) ∧ (Below w.heap.size w w')) ?_ ?_
         rotate_left
         ·intro hJ0_3_4_7_9
          refine join_ (σ := Value × Value × Value × Value) 2 #[true, true, true, true, true, true, true, true, true, false, false] (fun s_ => [(40, s_.1), (43, s_.2.1), (44, s_.2.2.1), (47, s_.2.2.2), (48, .agg #[s_.2.1, s_.2.2.2])]) (fun s_ w' => (w'.cell? ⟨gb285, 0, none⟩ = some (.slice A1_0 l1_0.length c1_0) ∧ w'.cell? ⟨gb285, 1, none⟩ = some (.slice A1_1 l1_1.length c1_1)) ∧ (Kd.R (Kd.int .i64) 3 w' w.heap.size (fun k_ => some k_ ≠ (s_.2.1 : Value).ownBlock) (.slice Ao60 y294.length co60) y294) ∧ (Kd.R (Kd.int .i64) 23 w' w.heap.size (fun k_ => some k_ ≠ (s_.2.2.2 : Value).ownBlock) (.slice Ao59 y300.length co59) y300) ∧ (Kd.R (Kd.int .i64) 3 w' w.heap.size (fun k_ => some k_ ≠ (.slice Ao60 y294.length co60 : Value).ownBlock) s_.2.1 y307) ∧ (Kd.R (Kd.int .i64) 23 w' w.heap.size (fun k_ => some k_ ≠ (.slice Ao59 y300.length co59 : Value).ownBlock) s_.2.2.2 y313) ∧ (w'.heap[gb284]? = some (.cells #[.slice A0_0 l0_0.length c0_0, .slice A0_1 l0_1.length c0_1] 27 (0, 0))) ∧ (w'.heap[gb285]? = some (.cells #[.slice A1_0 l1_0.length c1_0, .slice A1_1 l1_1.length c1_1] 27 (0, 0))) ∧ (w'.heap[gb303]? = some (.cells #[.slice Ao60 y294.length co60, .slice Ao59 y300.length co59] 27 (0, 0))) ∧ (Below w.heap.size w w')) ?_ ?_
          rotate_left
          ·intro hJ0_3_4_7
           refine join_ (σ := Value × Value × Value × Nat) 3 #[true, true, true, true, true, true, true, false, false, true, false] (fun s_ => [(40, s_.1), (43, s_.2.1), (44, s_.2.2.1), (6, .pointer (some ⟨s_.2.2.2, 0, none⟩))]) (fun s_ w' => (w'.cell? ⟨gb285, 0, none⟩ = some (.slice A1_0 l1_0.length c1_0) ∧ w'.cell? ⟨gb285, 1, none⟩ = some (.slice A1_1 l1_1.length c1_1)) ∧ (Kd.R (Kd.int .i64) 3 w' w.heap.size (fun k_ => some k_ ≠ (s_.2.1 : Value).ownBlock) (.slice Ao60 y294.length co60) y294) ∧ (Kd.R (Kd.int .i64) 23 w' w.heap.size (fun k_ => some k_ ≠ (s_.2.2.1 : Value).ownBlock) (.slice Ao59 y300.length co59) y300) ∧ (Kd.R (Kd.int .i64) 3 w' w.heap.size (fun k_ => some k_ ≠ (.slice Ao60 y294.length co60 : Value).ownBlock) s_.2.1 y307) ∧ (Kd.R (Kd.int .i64) 23 w' w.heap.size (fun k_ => some k_ ≠ (.slice Ao59 y300.length co59 : Value).ownBlock) s_.2.2.1 y310) ∧ (w'.heap[gb284]? = some (.cells #[.slice A0_0 l0_0.length c0_0, .slice A0_1 l0_1.length c0_1] 27 (0, 0))) ∧ (w'.heap[gb285]? = some (.cells #[.slice A1_0 l1_0.length c1_0, .slice A1_1 l1_1.length c1_1] 27 (0, 0))) ∧ (w'.heap[gb303]? = some (.cells #[.slice Ao60 y294.length co60, .slice Ao59 y300.length co59] 27 (0, 0))) ∧ (w'.heap[s_.2.2.2]? = some (.cells #[.slice none 0 0, .slice none 0 0] 27 (0, 0))) ∧ (w.heap.size ≤ s_.2.2.2) ∧ (w.heap.size ≤ s_.2.2.2) ∧ (gb284 ≠ s_.2.2.2) ∧ (s_.2.2.2 ≠ gb284) ∧ (gb285 ≠ s_.2.2.2) ∧ (s_.2.2.2 ≠ gb285) ∧ (gb303 ≠ s_.2.2.2) ∧ (s_.2.2.2 ≠ gb303) ∧ (Below w.heap.size w w')) ?_ ?_
           rotate_left
           ·intro hJ0_3_4_9
            refine join_ (σ := Value × Value × Value) 4 #[true, true, true, true, true, true, true, false, false, false, false] (fun s_ => [(40, s_.1), (43, s_.2.1), (44, s_.2.2)]) (fun s_ w' => (w'.cell? ⟨gb285, 0, none⟩ = some (.slice A1_0 l1_0.length c1_0) ∧ w'.cell? ⟨gb285, 1, none⟩ = some (.slice A1_1 l1_1.length c1_1)) ∧ (Kd.R (Kd.int .i64) 3 w' w.heap.size (fun k_ => some k_ ≠ (s_.2.1 : Value).ownBlock) (.slice Ao60 y294.length co60) y294) ∧ (Kd.R (Kd.int .i64) 23 w' w.heap.size (fun k_ => some k_ ≠ (s_.2.2 : Value).ownBlock) (.slice Ao59 y300.length co59) y300) ∧ (Kd.R (Kd.int .i64) 3 w' w.heap.size (fun k_ => some k_ ≠ (.slice Ao60 y294.length co60 : Value).ownBlock) s_.2.1 y307) ∧ (Kd.R (Kd.int .i64) 23 w' w.heap.size (fun k_ => some k_ ≠ (.slice Ao59 y300.length co59 : Value).ownBlock) s_.2.2 y310) ∧ (w'.heap[gb284]? = some (.cells #[.slice A0_0 l0_0.length c0_0, .slice A0_1 l0_1.length c0_1] 27 (0, 0))) ∧ (w'.heap[gb285]? = some (.cells #[.slice A1_0 l1_0.length c1_0, .slice A1_1 l1_1.length c1_1] 27 (0, 0))) ∧ (w'.heap[gb303]? = some (.cells #[.slice Ao60 y294.length co60, .slice Ao59 y300.length co59] 27 (0, 0))) ∧ (Below w.heap.size w w')) ?_ ?_
            rotate_left
            ·intro hJ0_3_4
             refine join_ (σ := Value × Value × Nat) 4 #[true, true, true, true, false, true, true, false, false, true, false] (fun s_ => [(40, s_.1), (43, s_.2.1), (6, .pointer (some ⟨s_.2.2, 0, none⟩))]) (fun s_ w' => (w'.cell? ⟨gb285, 0, none⟩ = some (.slice A1_0 l1_0.length c1_0) ∧ w'.cell? ⟨gb285, 1, none⟩ = some (.slice A1_1 l1_1.length c1_1)) ∧ (Kd.R (Kd.int .i64) 3 w' w.heap.size (fun k_ => some k_ ≠ (s_.2.1 : Value).ownBlock) (.slice Ao60 y294.length co60) y294) ∧ (Kd.R (Kd.int .i64) 23 w' w.heap.size (fun _ => True) (.slice Ao59 y300.length co59) y300) ∧ (Kd.R (Kd.int .i64) 3 w' w.heap.size (fun k_ => some k_ ≠ (.slice Ao60 y294.length co60 : Value).ownBlock) s_.2.1 y307) ∧ (w'.heap[gb284]? = some (.cells #[.slice A0_0 l0_0.length c0_0, .slice A0_1 l0_1.length c0_1] 27 (0, 0))) ∧ (w'.heap[gb285]? = some (.cells #[.slice A1_0 l1_0.length c1_0, .slice A1_1 l1_1.length c1_1] 27 (0, 0))) ∧ (w'.heap[gb303]? = some (.cells #[.slice Ao60 y294.length co60, .slice Ao59 y300.length co59] 27 (0, 0))) ∧ (w'.heap[s_.2.2]? = some (.cells #[.slice none 0 0, .slice none 0 0] 27 (0, 0))) ∧ (w.heap.size ≤ s_.2.2) ∧ (w.heap.size ≤ s_.2.2) ∧ (gb284 ≠ s_.2.2) ∧ (s_.2.2 ≠ gb284) ∧ (gb285 ≠ s_.2.2) ∧ (s_.2.2 ≠ gb285) ∧ (gb303 ≠ s_.2.2) ∧ (s_.2.2 ≠ gb303) ∧ (Below w.heap.size w w')) ?_ ?_
             rotate_left
             ·intro hJ0_3_9
              refine join_ (σ := Value × Value × Nat) 4 #[true, true, true, false, true, true, true, false, false, true, false] (fun s_ => [(40, s_.1), (44, s_.2.1), (6, .pointer (some ⟨s_.2.2, 0, none⟩))]) (fun s_ w' => (w'.cell? ⟨gb285, 0, none⟩ = some (.slice A1_0 l1_0.length c1_0) ∧ w'.cell? ⟨gb285, 1, none⟩ = some (.slice A1_1 l1_1.length c1_1)) ∧ (Kd.R (Kd.int .i64) 3 w' w.heap.size (fun k_ => some k_ ≠ (s_.1 : Value).ownBlock) (.slice Ao60 y294.length co60) y294) ∧ (Kd.R (Kd.int .i64) 23 w' w.heap.size (fun k_ => some k_ ≠ (s_.2.1 : Value).ownBlock) (.slice Ao59 y300.length co59) y300) ∧ (Kd.R (Kd.int .i64) 3 w' w.heap.size (fun k_ => some k_ ≠ (.slice Ao60 y294.length co60 : Value).ownBlock) s_.1 y304) ∧ (Kd.R (Kd.int .i64) 23 w' w.heap.size (fun k_ => some k_ ≠ (.slice Ao59 y300.length co59 : Value).ownBlock) s_.2.1 y310) ∧ (w'.heap[gb284]? = some (.cells #[.slice A0_0 l0_0.length c0_0, .slice A0_1 l0_1.length c0_1] 27 (0, 0))) ∧ (w'.heap[gb285]? = some (.cells #[.slice A1_0 l1_0.length c1_0, .slice A1_1 l1_1.length c1_1] 27 (0, 0))) ∧ (w'.heap[gb303]? = some (.cells #[.slice Ao60 y294.length co60, .slice Ao59 y300.length co59] 27 (0, 0))) ∧ (w'.heap[s_.2.2]? = some (.cells #[.slice none 0 0, .slice none 0 0] 27 (0, 0))) ∧ (w.heap.size ≤ s_.2.2) ∧ (w.heap.size ≤ s_.2.2) ∧ (gb284 ≠ s_.2.2) ∧ (s_.2.2 ≠ gb284) ∧ (gb285 ≠ s_.2.2) ∧ (s_.2.2 ≠ gb285) ∧ (gb303 ≠ s_.2.2) ∧ (s_.2.2 ≠ gb303) ∧ (Below w.heap.size w w')) ?_ ?_
              rotate_left
              ·intro hJ0_4_9
               refine join_ (σ := Value × Value) 5 #[true, true, true, true, false, true, true, false, false, false, false] (fun s_ => [(40, s_.1), (43, s_.2)]) (fun s_ w' => (w'.cell? ⟨gb285, 0, none⟩ = some (.slice A1_0 l1_0.length c1_0) ∧ w'.cell? ⟨gb285, 1, none⟩ = some (.slice A1_1 l1_1.length c1_1)) ∧ (Kd.R (Kd.int .i64) 3 w' w.heap.size (fun k_ => some k_ ≠ (s_.2 : Value).ownBlock) (.slice Ao60 y294.length co60) y294) ∧ (Kd.R (Kd.int .i64) 23 w' w.heap.size (fun _ => True) (.slice Ao59 y300.length co59) y300) ∧ (Kd.R (Kd.int .i64) 3 w' w.heap.size (fun k_ => some k_ ≠ (.slice Ao60 y294.length co60 : Value).ownBlock) s_.2 y307) ∧ (w'.heap[gb284]? = some (.cells #[.slice A0_0 l0_0.length c0_0, .slice A0_1 l0_1.length c0_1] 27 (0, 0))) ∧ (w'.heap[gb285]? = some (.cells #[.slice A1_0 l1_0.length c1_0, .slice A1_1 l1_1.length c1_1] 27 (0, 0))) ∧ (w'.heap[gb303]? = some (.cells #[.slice Ao60 y294.length co60, .slice Ao59 y300.length co59] 27 (0, 0))) ∧ (Below w.heap.size w w')) ?_ ?_
               rotate_left
               ·intro hJ0_3
                refine join_ (σ := Value × Value) 5 #[true, true, true, false, true, true, true, false, false, false, false] (fun s_ => [(40, s_.1), (44, s_.2)]) (fun s_ w' => (w'.cell? ⟨gb285, 0, none⟩ = some (.slice A1_0 l1_0.length c1_0) ∧ w'.cell? ⟨gb285, 1, none⟩ = some (.slice A1_1 l1_1.length c1_1)) ∧ (Kd.R (Kd.int .i64) 3 w' w.heap.size (fun k_ => some k_ ≠ (s_.1 : Value).ownBlock) (.slice Ao60 y294.length co60) y294) ∧ (Kd.R (Kd.int .i64) 23 w' w.heap.size (fun k_ => some k_ ≠ (s_.2 : Value).ownBlock) (.slice Ao59 y300.length co59) y300) ∧ (Kd.R (Kd.int .i64) 3 w' w.heap.size (fun k_ => some k_ ≠ (.slice Ao60 y294.length co60 : Value).ownBlock) s_.1 y304) ∧ (Kd.R (Kd.int .i64) 23 w' w.heap.size (fun k_ => some k_ ≠ (.slice Ao59 y300.length co59 : Value).ownBlock) s_.2 y310) ∧ (w'.heap[gb284]? = some (.cells #[.slice A0_0 l0_0.length c0_0, .slice A0_1 l0_1.length c0_1] 27 (0, 0))) ∧ (w'.heap[gb285]? = some (.cells #[.slice A1_0 l1_0.length c1_0, .slice A1_1 l1_1.length c1_1] 27 (0, 0))) ∧ (w'.heap[gb303]? = some (.cells #[.slice Ao60 y294.length co60, .slice Ao59 y300.length co59] 27 (0, 0))) ∧ (Below w.heap.size w w')) ?_ ?_
                rotate_left
                ·intro hJ0_4
                 refine join_ (σ := Value × Nat) 5 #[true, true, true, false, false, true, true, false, false, true, false] (fun s_ => [(40, s_.1), (6, .pointer (some ⟨s_.2, 0, none⟩))]) (fun s_ w' => (w'.cell? ⟨gb285, 0, none⟩ = some (.slice A1_0 l1_0.length c1_0) ∧ w'.cell? ⟨gb285, 1, none⟩ = some (.slice A1_1 l1_1.length c1_1)) ∧ (Kd.R (Kd.int .i64) 3 w' w.heap.size (fun k_ => some k_ ≠ (s_.1 : Value).ownBlock) (.slice Ao60 y294.length co60) y294) ∧ (Kd.R (Kd.int .i64) 23 w' w.heap.size (fun _ => True) (.slice Ao59 y300.length co59) y300) ∧ (Kd.R (Kd.int .i64) 3 w' w.heap.size (fun k_ => some k_ ≠ (.slice Ao60 y294.length co60 : Value).ownBlock) s_.1 y304) ∧ (w'.heap[gb284]? = some (.cells #[.slice A0_0 l0_0.length c0_0, .slice A0_1 l0_1.length c0_1] 27 (0, 0))) ∧ (w'.heap[gb285]? = some (.cells #[.slice A1_0 l1_0.length c1_0, .slice A1_1 l1_1.length c1_1] 27 (0, 0))) ∧ (w'.heap[gb303]? = some (.cells #[.slice Ao60 y294.length co60, .slice Ao59 y300.length co59] 27 (0, 0))) ∧ (w'.heap[s_.2]? = some (.cells #[.slice none 0 0, .slice none 0 0] 27 (0, 0))) ∧ (w.heap.size ≤ s_.2) ∧ (w.heap.size ≤ s_.2) ∧ (gb284 ≠ s_.2) ∧ (s_.2 ≠ gb284) ∧ (gb285 ≠ s_.2) ∧ (s_.2 ≠ gb285) ∧ (gb303 ≠ s_.2) ∧ (s_.2 ≠ gb303) ∧ (Below w.heap.size w w')) ?_ ?_
                 rotate_left
                 ·intro hJ0_9
                  refine join_ (σ := Value × Nat) 5 #[false, true, true, false, true, true, true, false, false, true, false] (fun s_ => [(44, s_.1), (6, .pointer (some ⟨s_.2, 0, none⟩))]) (fun s_ w' => (w'.cell? ⟨gb285, 0, none⟩ = some (.slice A1_0 l1_0.length c1_0) ∧ w'.cell? ⟨gb285, 1, none⟩ = some (.slice A1_1 l1_1.length c1_1)) ∧ (Kd.R (Kd.int .i64) 3 w' w.heap.size (fun _ => True) (.slice Ao60 y294.length co60) y294) ∧ (Kd.R (Kd.int .i64) 23 w' w.heap.size (fun k_ => some k_ ≠ (s_.1 : Value).ownBlock) (.slice Ao59 y300.length co59) y300) ∧ (Kd.R (Kd.int .i64) 23 w' w.heap.size (fun k_ => some k_ ≠ (.slice Ao59 y300.length co59 : Value).ownBlock) s_.1 y310) ∧ (w'.heap[gb284]? = some (.cells #[.slice A0_0 l0_0.length c0_0, .slice A0_1 l0_1.length c0_1] 27 (0, 0))) ∧ (w'.heap[gb285]? = some (.cells #[.slice A1_0 l1_0.length c1_0, .slice A1_1 l1_1.length c1_1] 27 (0, 0))) ∧ (w'.heap[gb303]? = some (.cells #[.slice Ao60 y294.length co60, .slice Ao59 y300.length co59] 27 (0, 0))) ∧ (w'.heap[s_.2]? = some (.cells #[.slice none 0 0, .slice none 0 0] 27 (0, 0))) ∧ (w.heap.size ≤ s_.2) ∧ (w.heap.size ≤ s_.2) ∧ (gb284 ≠ s_.2) ∧ (s_.2 ≠ gb284) ∧ (gb285 ≠ s_.2) ∧ (s_.2 ≠ gb285) ∧ (gb303 ≠ s_.2) ∧ (s_.2 ≠ gb303) ∧ (Below w.heap.size w w')) ?_ ?_
                  rotate_left
                  ·intro hJ4_9
                   refine join_ (σ := Value) 6 #[true, true, true, false, false, true, true, false, false, false, false] (fun s_ => [(40, s_)]) (fun s_ w' => (w'.cell? ⟨gb285, 0, none⟩ = some (.slice A1_0 l1_0.length c1_0) ∧ w'.cell? ⟨gb285, 1, none⟩ = some (.slice A1_1 l1_1.length c1_1)) ∧ (Kd.R (Kd.int .i64) 3 w' w.heap.size (fun k_ => some k_ ≠ (s_ : Value).ownBlock) (.slice Ao60 y294.length co60) y294) ∧ (Kd.R (Kd.int .i64) 23 w' w.heap.size (fun _ => True) (.slice Ao59 y300.length co59) y300) ∧ (Kd.R (Kd.int .i64) 3 w' w.heap.size (fun k_ => some k_ ≠ (.slice Ao60 y294.length co60 : Value).ownBlock) s_ y304) ∧ (w'.heap[gb284]? = some (.cells #[.slice A0_0 l0_0.length c0_0, .slice A0_1 l0_1.length c0_1] 27 (0, 0))) ∧ (w'.heap[gb285]? = some (.cells #[.slice A1_0 l1_0.length c1_0, .slice A1_1 l1_1.length c1_1] 27 (0, 0))) ∧ (w'.heap[gb303]? = some (.cells #[.slice Ao60 y294.length co60, .slice Ao59 y300.length co59] 27 (0, 0))) ∧ (Below w.heap.size w w')) ?_ ?_
                   rotate_left
                   ·intro hJ0
                    refine join_ (σ := Value) 6 #[false, true, true, false, true, true, true, false, false, false, false] (fun s_ => [(44, s_)]) (fun s_ w' => (w'.cell? ⟨gb285, 0, none⟩ = some (.slice A1_0 l1_0.length c1_0) ∧ w'.cell? ⟨gb285, 1, none⟩ = some (.slice A1_1 l1_1.length c1_1)) ∧ (Kd.R (Kd.int .i64) 3 w' w.heap.size (fun _ => True) (.slice Ao60 y294.length co60) y294) ∧ (Kd.R (Kd.int .i64) 23 w' w.heap.size (fun k_ => some k_ ≠ (s_ : Value).ownBlock) (.slice Ao59 y300.length co59) y300) ∧ (Kd.R (Kd.int .i64) 23 w' w.heap.size (fun k_ => some k_ ≠ (.slice Ao59 y300.length co59 : Value).ownBlock) s_ y310) ∧ (w'.heap[gb284]? = some (.cells #[.slice A0_0 l0_0.length c0_0, .slice A0_1 l0_1.length c0_1] 27 (0, 0))) ∧ (w'.heap[gb285]? = some (.cells #[.slice A1_0 l1_0.length c1_0, .slice A1_1 l1_1.length c1_1] 27 (0, 0))) ∧ (w'.heap[gb303]? = some (.cells #[.slice Ao60 y294.length co60, .slice Ao59 y300.length co59] 27 (0, 0))) ∧ (Below w.heap.size w w')) ?_ ?_
                    rotate_left
                    ·intro hJ4
                     refine join_ (σ := Nat) 6 #[false, true, true, false, false, true, true, false, false, true, false] (fun s_ => [(6, .pointer (some ⟨s_, 0, none⟩))]) (fun s_ w' => (w'.cell? ⟨gb285, 0, none⟩ = some (.slice A1_0 l1_0.length c1_0) ∧ w'.cell? ⟨gb285, 1, none⟩ = some (.slice A1_1 l1_1.length c1_1)) ∧ (Kd.R (Kd.int .i64) 3 w' w.heap.size (fun _ => True) (.slice Ao60 y294.length co60) y294) ∧ (Kd.R (Kd.int .i64) 23 w' w.heap.size (fun _ => True) (.slice Ao59 y300.length co59) y300) ∧ (w'.heap[gb284]? = some (.cells #[.slice A0_0 l0_0.length c0_0, .slice A0_1 l0_1.length c0_1] 27 (0, 0))) ∧ (w'.heap[gb285]? = some (.cells #[.slice A1_0 l1_0.length c1_0, .slice A1_1 l1_1.length c1_1] 27 (0, 0))) ∧ (w'.heap[gb303]? = some (.cells #[.slice Ao60 y294.length co60, .slice Ao59 y300.length co59] 27 (0, 0))) ∧ (w'.heap[s_]? = some (.cells #[.slice none 0 0, .slice none 0 0] 27 (0, 0))) ∧ (w.heap.size ≤ s_) ∧ (w.heap.size ≤ s_) ∧ (gb284 ≠ s_) ∧ (s_ ≠ gb284) ∧ (gb285 ≠ s_) ∧ (s_ ≠ gb285) ∧ (gb303 ≠ s_) ∧ (s_ ≠ gb303) ∧ (Below w.heap.size w w')) ?_ ?_
                     rotate_left
                     ·intro hJ9
                      refine three_ (i := 0) (j := 4) (k := 9) (Ni := some 40) (Nj := some 44) (Nk := some 6) #[true, true, true, false, false, true, true, false, false, false, false] #[false, true, true, false, true, true, true, false, false, false, false] #[false, true, true, false, false, true, true, false, false, true, false] rfl rfl rfl rfl rfl rfl (three_of HT_.out (by kernel_rfl)) (by decide) (by decide) (by decide) (fun K hK => ?_) (fun K hK => ?_) (fun K hK => ?_)
                      ·skip
                       refine Kd.R_lit_step (Kd.int .i64) _ 3 ?hg (N := 40) ?hd (xs := ([] : List Int)) (inner := []) (ok := fun _ => True) (okp := fun _ => True) ?hr ?hp (fun _ hk => hk) trivial (Below.refl _ _) (Nat.le_refl _) (by simp) ?_; (case hd => rfl); (case hg => rfl); (case hr => first | (go_simp; done) | (go_simp; rfl)); (case hp => exact (Reps.none _ _))
                       intro v305 w65 ho66 hb hg_ hnew_
                       clear hg_ hnew_
                       (first | rw [← Ny304.out] at ho66 | (simp only [Int.reduceToNat] at ho66; rw [← Ny304.out] at ho66))
                       replace HO302 := Aside0.mk (Kd.R_below (zr_ HO302.out) hb)
                       have HO306 := Aside0.mk (Kd.R_lower (Kd.R_new' ho66 (Kd.R_lt (zr_ HO296.out))) (below_size (zw3_ HB GE284 GE285 GE303)))
                       replace HO296 := Aside0.mk (Kd.R_elder' (zr_ HO296.out) (Kd.R_base ho66) hb)
                       replace BK284 := Aside0.mk (zl_ BK284 hb)
                       replace BK285 := Aside0.mk (zl_ BK285 hb)
                       replace BK303 := Aside0.mk (zl_ BK303 hb)
                       replace HB := Aside0.mk (below_step (zw3_ HB GE284 GE285 GE303) hb)
                       clear hb ho66
                       refine hK.out _ _ ⟨(blk_cell BK285.out 0).trans rfl, (blk_cell BK285.out 1).trans rfl⟩ (fun hHeld => ?_)
                       clear hK K
                       refine zq_ (some 40) (h := ?_)
                       exact zj_ (hJ0 (v305) _ ⟨hHeld, (zr_ (Kd.R_mono HO296.out (fun _ hk => hk.2))), (zr_ HO302.out), (zr_ (Kd.R_mono HO306.out (fun _ hk => hk.2))), (zb_ BK284), (zb_ BK285), (zb_ BK303), (zw3_ HB GE284 GE285 GE303)⟩)
                      ·skip
                       refine Kd.R_lit_step (Kd.int .i64) _ 23 ?hg (N := 44) ?hd (xs := ([] : List Int)) (inner := []) (ok := fun _ => True) (okp := fun _ => True) ?hr ?hp (fun _ hk => hk) trivial (Below.refl _ _) (Nat.le_refl _) (by simp) ?_; (case hd => rfl); (case hg => rfl); (case hr => first | (go_simp; done) | (go_simp; rfl)); (case hp => exact (Reps.none _ _))
                       intro v311 w65 ho66 hb hg_ hnew_
                       clear hg_ hnew_
                       (first | rw [← Ny310.out] at ho66 | (simp only [Int.reduceToNat] at ho66; rw [← Ny310.out] at ho66))
                       replace HO296 := Aside0.mk (Kd.R_below (zr_ HO296.out) hb)
                       have HO312 := Aside0.mk (Kd.R_lower (Kd.R_new' ho66 (Kd.R_lt (zr_ HO302.out))) (below_size (zw3_ HB GE284 GE285 GE303)))
                       replace HO302 := Aside0.mk (Kd.R_elder' (zr_ HO302.out) (Kd.R_base ho66) hb)
                       replace BK284 := Aside0.mk (zl_ BK284 hb)
                       replace BK285 := Aside0.mk (zl_ BK285 hb)
                       replace BK303 := Aside0.mk (zl_ BK303 hb)
                       replace HB := Aside0.mk (below_step (zw3_ HB GE284 GE285 GE303) hb)
                       clear hb ho66
                       refine hK.out _ _ ⟨(blk_cell BK285.out 0).trans rfl, (blk_cell BK285.out 1).trans rfl⟩ (fun hHeld => ?_)
                       clear hK K
                       refine zq_ (some 44) (h := ?_)
                       exact zj_ (hJ4 (v311) _ ⟨hHeld, (zr_ HO296.out), (zr_ (Kd.R_mono HO302.out (fun _ hk => hk.2))), (zr_ (Kd.R_mono HO312.out (fun _ hk => hk.2))), (zb_ BK284), (zb_ BK285), (zb_ BK303), (zw3_ HB GE284 GE285 GE303)⟩)
                      ·skip
                       refine box_step ?hg (N := 6) ?hd (cs := #[.slice none 0 0, .slice none 0 0]) (t := 27) ?hr ?_; (case hd => rfl); (case hg => rfl); (case hr => first | (go_simp; done) | (go_simp; rfl))
                       intro gb316 hg w65 hbox hb
                       replace HO296 := Aside0.mk (Kd.R_below (zr_ HO296.out) hb)
                       replace HO302 := Aside0.mk (Kd.R_below (zr_ HO302.out) hb)
                       have BK316 := Aside0.mk (hbox)
                       have GW316 := Aside0.mk (zs_ hg (zw3_ HB GE284 GE285 GE303))
                       have GE316 := Aside0.mk (zs_ hg (zw3_ HB GE284 GE285 GE303))
                       replace HB := Aside0.mk (below_step (zw3_ HB GE284 GE285 GE303) hb)
                       have NB284_316 := Aside0.mk (zn_ hg BK284)
                       have NB316_284 := Aside0.mk (zm_ hg BK284)
                       replace BK284 := Aside0.mk (zl_ BK284 hb)
                       have NB285_316 := Aside0.mk (zn_ hg BK285)
                       have NB316_285 := Aside0.mk (zm_ hg BK285)
                       replace BK285 := Aside0.mk (zl_ BK285 hb)
                       have NB303_316 := Aside0.mk (zn_ hg BK303)
                       have NB316_303 := Aside0.mk (zm_ hg BK303)
                       replace BK303 := Aside0.mk (zl_ BK303 hb)
                       clear hb hbox hg
                       refine hK.out _ _ ⟨(blk_cell BK285.out 0).trans rfl, (blk_cell BK285.out 1).trans rfl⟩ (fun hHeld => ?_)
                       clear hK K
                       refine zq_ (some 6) (h := ?_)
                       exact zj_ (hJ9 (gb316) _ ⟨hHeld, (zr_ HO296.out), (zr_ HO302.out), (zb_ BK284), (zb_ BK285), (zb_ BK303), (zb_ BK316), GW316.out, GE316.out, NB284_316.out, NB316_284.out, NB285_316.out, NB316_285.out, NB303_316.out, NB316_303.out, (zw4_ HB GE284 GE285 GE303 GE316)⟩)
                     ·skip
                      rintro gb316 w66 ⟨hS_, h0_, h1_, h2_, h3_, h4_, h5_, h6_, h7_, h8_, h9_, h10_, h11_, h12_, h13_, h14_⟩
                      (try dsimp only at h0_ h1_ h2_ h3_ h4_ h5_ h6_ h7_ h8_ h9_ h10_ h11_ h12_ h13_ h14_)
                      clear HO296 HO302 BK284 BK285 BK303 HB
                      have HO296 := Aside0.mk h0_
                      have HO302 := Aside0.mk h1_
                      have BK284 := Aside0.mk h2_
                      have BK285 := Aside0.mk h3_
                      have BK303 := Aside0.mk h4_
                      have BK316 := Aside0.mk h5_
                      have GW316 := Aside0.mk h6_
                      have GE316 := Aside0.mk h7_
                      have NB284_316 := Aside0.mk h8_
                      have NB316_284 := Aside0.mk h9_
                      have NB285_316 := Aside0.mk h10_
                      have NB316_285 := Aside0.mk h11_
                      have NB303_316 := Aside0.mk h12_
                      have NB316_303 := Aside0.mk h13_
                      have HB := Aside0.mk h14_
                      clear h0_ h1_ h2_ h3_ h4_ h5_ h6_ h7_ h8_ h9_ h10_ h11_ h12_ h13_ h14_
                      have hHeld : w66.cell? ⟨gb285, 0, none⟩ = some (.slice A1_0 l1_0.length c1_0) ∧ w66.cell? ⟨gb285, 1, none⟩ = some (.slice A1_1 l1_1.length c1_1) := hS_
                      refine zi_ (h := ?_)
                      refine two_ (i := 0) (j := 4) (Ni := some 40) (Nj := some 44) #[true, true, true, false, false, true, true, false, false, true, false] #[false, true, true, false, true, true, true, false, false, true, false] rfl rfl rfl rfl (two_of HT_.out (by kernel_rfl)) (by decide) (by decide) (fun K hK => ?_) (fun K hK => ?_)
                      ·skip
                       refine Kd.R_lit_step (Kd.int .i64) _ 3 ?hg (N := 40) ?hd (xs := ([] : List Int)) (inner := []) (ok := fun _ => True) (okp := fun _ => True) ?hr ?hp (fun _ hk => hk) trivial (Below.refl _ _) (Nat.le_refl _) (by simp) ?_; (case hd => rfl); (case hg => rfl); (case hr => first | (go_simp; done) | (go_simp; rfl)); (case hp => exact (Reps.none _ _))
                       intro v305 w67 ho68 hb hg_ hnew_
                       clear hg_ hnew_
                       (first | rw [← Ny304.out] at ho68 | (simp only [Int.reduceToNat] at ho68; rw [← Ny304.out] at ho68))
                       replace HO302 := Aside0.mk (Kd.R_below (zr_ HO302.out) hb)
                       have HO306 := Aside0.mk (Kd.R_lower (Kd.R_new' ho68 (Kd.R_lt (zr_ HO296.out))) (below_size (zw4_ HB GE284 GE285 GE303 GE316)))
                       replace HO296 := Aside0.mk (Kd.R_elder' (zr_ HO296.out) (Kd.R_base ho68) hb)
                       replace BK284 := Aside0.mk (zl_ BK284 hb)
                       replace BK285 := Aside0.mk (zl_ BK285 hb)
                       replace BK303 := Aside0.mk (zl_ BK303 hb)
                       replace BK316 := Aside0.mk (zl_ BK316 hb)
                       replace HB := Aside0.mk (below_step (zw4_ HB GE284 GE285 GE303 GE316) hb)
                       clear hb ho68
                       refine hK.out _ _ ⟨(blk_cell BK285.out 0).trans rfl, (blk_cell BK285.out 1).trans rfl⟩ (fun hHeld => ?_)
                       clear hK K
                       refine zq_ (some 40) (h := ?_)
                       exact zj_ (hJ0_9 (v305, gb316) _ ⟨hHeld, (zr_ (Kd.R_mono HO296.out (fun _ hk => hk.2))), (zr_ HO302.out), (zr_ (Kd.R_mono HO306.out (fun _ hk => hk.2))), (zb_ BK284), (zb_ BK285), (zb_ BK303), (zb_ BK316), GW316.out, GE316.out, NB284_316.out, NB316_284.out, NB285_316.out, NB316_285.out, NB303_316.out, NB316_303.out, (zw4_ HB GE284 GE285 GE303 GE316)⟩)
                      ·skip
                       refine Kd.R_lit_step (Kd.int .i64) _ 23 ?hg (N := 44) ?hd (xs := ([] : List Int)) (inner := []) (ok := fun _ => True) (okp := fun _ => True) ?hr ?hp (fun _ hk => hk) trivial (Below.refl _ _) (Nat.le_refl _) (by simp) ?_; (case hd => rfl); (case hg => rfl); (case hr => first | (go_simp; done) | (go_simp; rfl)); (case hp => exact (Reps.none _ _))
                       intro v311 w67 ho68 hb hg_ hnew_
                       clear hg_ hnew_
                       (first | rw [← Ny310.out] at ho68 | (simp only [Int.reduceToNat] at ho68; rw [← Ny310.out] at ho68))
                       replace HO296 := Aside0.mk (Kd.R_below (zr_ HO296.out) hb)
                       have HO312 := Aside0.mk (Kd.R_lower (Kd.R_new' ho68 (Kd.R_lt (zr_ HO302.out))) (below_size (zw4_ HB GE284 GE285 GE303 GE316)))
                       replace HO302 := Aside0.mk (Kd.R_elder' (zr_ HO302.out) (Kd.R_base ho68) hb)
                       replace BK284 := Aside0.mk (zl_ BK284 hb)
                       replace BK285 := Aside0.mk (zl_ BK285 hb)
                       replace BK303 := Aside0.mk (zl_ BK303 hb)
                       replace BK316 := Aside0.mk (zl_ BK316 hb)
                       replace HB := Aside0.mk (below_step (zw4_ HB GE284 GE285 GE303 GE316) hb)
                       clear hb ho68
                       refine hK.out _ _ ⟨(blk_cell BK285.out 0).trans rfl, (blk_cell BK285.out 1).trans rfl⟩ (fun hHeld => ?_)
                       clear hK K
                       refine zq_ (some 44) (h := ?_)
                       exact zj_ (hJ4_9 (v311, gb316) _ ⟨hHeld, (zr_ HO296.out), (zr_ (Kd.R_mono HO302.out (fun _ hk => hk.2))), (zr_ (Kd.R_mono HO312.out (fun _ hk => hk.2))), (zb_ BK284), (zb_ BK285), (zb_ BK303), (zb_ BK316), GW316.out, GE316.out, NB284_316.out, NB316_284.out, NB285_316.out, NB316_285.out, NB303_316.out, NB316_303.out, (zw4_ HB GE284 GE285 GE303 GE316)⟩)
                    ·skip
                     rintro v311 w67 ⟨hS_, h0_, h1_, h2_, h3_, h4_, h5_, h6_⟩
                     (try dsimp only at h0_ h1_ h2_ h3_ h4_ h5_ h6_)
                     clear HO296 HO302 BK284 BK285 BK303 HB
                     have HO296 := Aside0.mk h0_
                     have HO302 := Aside0.mk h1_
                     have HO312 := Aside0.mk h2_
                     have BK284 := Aside0.mk h3_
                     have BK285 := Aside0.mk h4_
                     have BK303 := Aside0.mk h5_
                     have HB := Aside0.mk h6_
                     clear h0_ h1_ h2_ h3_ h4_ h5_ h6_
                     have hHeld : w67.cell? ⟨gb285, 0, none⟩ = some (.slice A1_0 l1_0.length c1_0) ∧ w67.cell? ⟨gb285, 1, none⟩ = some (.slice A1_1 l1_1.length c1_1) := hS_
                     refine zi_ (h := ?_)
                     refine two_ (i := 0) (j := 9) (Ni := some 40) (Nj := some 6) #[true, true, true, false, true, true, true, false, false, false, false] #[false, true, true, false, true, true, true, false, false, true, false] rfl rfl rfl rfl (two_of HT_.out (by kernel_rfl)) (by decide) (by decide) (fun K hK => ?_) (fun K hK => ?_)
                     ·skip
                      refine Kd.R_lit_step (Kd.int .i64) _ 3 ?hg (N := 40) ?hd (xs := ([] : List Int)) (inner := []) (ok := fun _ => True) (okp := fun _ => True) ?hr ?hp (fun _ hk => hk) trivial (Below.refl _ _) (Nat.le_refl _) (by simp) ?_; (case hd => rfl); (case hg => rfl); (case hr => first | (go_simp; done) | (go_simp; rfl)); (case hp => exact (Reps.none _ _))
                      intro v305 w68 ho69 hb hg_ hnew_
                      clear hg_ hnew_
                      (first | rw [← Ny304.out] at ho69 | (simp only [Int.reduceToNat] at ho69; rw [← Ny304.out] at ho69))
                      replace HO302 := Aside0.mk (Kd.R_below (zr_ HO302.out) hb)
                      replace HO312 := Aside0.mk (Kd.R_below (zr_ HO312.out) hb)
                      have HO306 := Aside0.mk (Kd.R_lower (Kd.R_new' ho69 (Kd.R_lt (zr_ HO296.out))) (below_size (zw3_ HB GE284 GE285 GE303)))
                      replace HO296 := Aside0.mk (Kd.R_elder' (zr_ HO296.out) (Kd.R_base ho69) hb)
                      replace BK284 := Aside0.mk (zl_ BK284 hb)
                      replace BK285 := Aside0.mk (zl_ BK285 hb)
                      replace BK303 := Aside0.mk (zl_ BK303 hb)
                      replace HB := Aside0.mk (below_step (zw3_ HB GE284 GE285 GE303) hb)
                      clear hb ho69
                      refine hK.out _ _ ⟨(blk_cell BK285.out 0).trans rfl, (blk_cell BK285.out 1).trans rfl⟩ (fun hHeld => ?_)
                      clear hK K
                      refine zq_ (some 40) (h := ?_)
                      exact zj_ (hJ0_4 (v305, v311) _ ⟨hHeld, (zr_ (Kd.R_mono HO296.out (fun _ hk => hk.2))), (zr_ HO302.out), (zr_ (Kd.R_mono HO306.out (fun _ hk => hk.2))), (zr_ HO312.out), (zb_ BK284), (zb_ BK285), (zb_ BK303), (zw3_ HB GE284 GE285 GE303)⟩)
                     ·skip
                      refine box_step ?hg (N := 6) ?hd (cs := #[.slice none 0 0, .slice none 0 0]) (t := 27) ?hr ?_; (case hd => rfl); (case hg => rfl); (case hr => first | (go_simp; done) | (go_simp; rfl))
                      intro gb316 hg w68 hbox hb
                      replace HO296 := Aside0.mk (Kd.R_below (zr_ HO296.out) hb)
                      replace HO302 := Aside0.mk (Kd.R_below (zr_ HO302.out) hb)
                      replace HO312 := Aside0.mk (Kd.R_below (zr_ HO312.out) hb)
                      have BK316 := Aside0.mk (hbox)
                      have GW316 := Aside0.mk (zs_ hg (zw3_ HB GE284 GE285 GE303))
                      have GE316 := Aside0.mk (zs_ hg (zw3_ HB GE284 GE285 GE303))
                      replace HB := Aside0.mk (below_step (zw3_ HB GE284 GE285 GE303) hb)
                      have NB284_316 := Aside0.mk (zn_ hg BK284)
                      have NB316_284 := Aside0.mk (zm_ hg BK284)
                      replace BK284 := Aside0.mk (zl_ BK284 hb)
                      have NB285_316 := Aside0.mk (zn_ hg BK285)
                      have NB316_285 := Aside0.mk (zm_ hg BK285)
                      replace BK285 := Aside0.mk (zl_ BK285 hb)
                      have NB303_316 := Aside0.mk (zn_ hg BK303)
                      have NB316_303 := Aside0.mk (zm_ hg BK303)
                      replace BK303 := Aside0.mk (zl_ BK303 hb)
                      clear hb hbox hg
                      refine hK.out _ _ ⟨(blk_cell BK285.out 0).trans rfl, (blk_cell BK285.out 1).trans rfl⟩ (fun hHeld => ?_)
                      clear hK K
                      refine zq_ (some 6) (h := ?_)
                      exact zj_ (hJ4_9 (v311, gb316) _ ⟨hHeld, (zr_ HO296.out), (zr_ HO302.out), (zr_ HO312.out), (zb_ BK284), (zb_ BK285), (zb_ BK303), (zb_ BK316), GW316.out, GE316.out, NB284_316.out, NB316_284.out, NB285_316.out, NB316_285.out, NB303_316.out, NB316_303.out, (zw4_ HB GE284 GE285 GE303 GE316)⟩)
                   ·skip
                    rintro v305 w67 ⟨hS_, h0_, h1_, h2_, h3_, h4_, h5_, h6_⟩
                    (try dsimp only at h0_ h1_ h2_ h3_ h4_ h5_ h6_)
                    clear HO296 HO302 BK284 BK285 BK303 HB
                    have HO296 := Aside0.mk h0_
                    have HO302 := Aside0.mk h1_
                    have HO306 := Aside0.mk h2_
                    have BK284 := Aside0.mk h3_
                    have BK285 := Aside0.mk h4_
                    have BK303 := Aside0.mk h5_
                    have HB := Aside0.mk h6_
                    clear h0_ h1_ h2_ h3_ h4_ h5_ h6_
                    have hHeld : w67.cell? ⟨gb285, 0, none⟩ = some (.slice A1_0 l1_0.length c1_0) ∧ w67.cell? ⟨gb285, 1, none⟩ = some (.slice A1_1 l1_1.length c1_1) := hS_
                    refine zi_ (h := ?_)
                    refine three_ (i := 3) (j := 4) (k := 9) (Ni := some 43) (Nj := some 44) (Nk := some 6) #[true, true, true, true, false, true, true, false, false, false, false] #[true, true, true, false, true, true, true, false, false, false, false] #[true, true, true, false, false, true, true, false, false, true, false] rfl rfl rfl rfl rfl rfl (three_of HT_.out (by kernel_rfl)) (by decide) (by decide) (by decide) (fun K hK => ?_) (fun K hK => ?_) (fun K hK => ?_)
                    ·skip
                     refine Kd.R_append_rows_step (Kd.int .i64) (w0 := w) w.heap.size (by rfl) (.tmp 40) (.tmp 42) 22 3 (.int .i64 0) 8 rfl Try.underlying22 info3 rfl (by decide) (by omega) v305 y304 l1_0 _ _ _ (fun k_ => some k_ ≠ (.slice Ao60 y294.length co60 : Value).ownBlock) (fun _ => False) rfl rfl ?aO ?aR (fun _ _ h => h) (fun _ h => h.elim) ?aF ?aB ?aS ?aL ?_
                     (case aR => exact zk_ (Kd.C_below HR1_0.out HB.out))
                     (case aB => exact (zw3_ HB GE284 GE285 GE303))
                     (case aF => exact (fun k_ hk => Kd.fresh' (Kd.R_lt (zr_ HO296.out)) k_ hk))
                     (case aO => exact (zr_ HO306.out))
                     (case aS => exact (below_size (zw3_ HB GE284 GE285 GE303)))
                     (case aL => have := LMc43.out; omega)
                     intro v308 w68 ho hb hg hat
                     rw [← Ny307.out] at ho
                     replace BK284 := Aside0.mk (zh_ BK284 hg (Kd.R_ne HO306.out BK284.out (by decide)))
                     replace BK285 := Aside0.mk (zh_ BK285 hg (Kd.R_ne HO306.out BK285.out (by decide)))
                     replace HO296 := Aside0.mk (Kd.R_after (ok := (fun _ => True)) (zr_ (Kd.R_mono HO296.out (fun _ hk => ⟨trivial, hk⟩))) hg hat)
                     replace HO302 := Aside0.mk (Kd.R_over' (zr_ HO302.out) (Kd.R_typed (zr_ HO306.out)) (by decide) hg)
                     replace BK303 := Aside0.mk (zh_ BK303 hg (Kd.R_ne HO306.out BK303.out (by decide)))
                     replace HB := Aside0.mk (hb)
                     have HO309 := Aside0.mk (ho)
                     clear HO306
                     clear ho hb hg hat
                     refine hK.out _ _ ⟨(blk_cell BK285.out 0).trans rfl, (blk_cell BK285.out 1).trans rfl⟩ (fun hHeld => ?_)
                     clear hK K
                     refine zq_ (some 43) (h := ?_)
                     exact zj_ (hJ0_3 (v305, v308) _ ⟨hHeld, (zr_ (Kd.R_mono HO296.out (fun _ hk => hk.2))), (zr_ HO302.out), (zr_ HO309.out), (zb_ BK284), (zb_ BK285), (zb_ BK303), (zw3_ HB GE284 GE285 GE303)⟩)
                    ·skip
                     refine Kd.R_lit_step (Kd.int .i64) _ 23 ?hg (N := 44) ?hd (xs := ([] : List Int)) (inner := []) (ok := fun _ => True) (okp := fun _ => True) ?hr ?hp (fun _ hk => hk) trivial (Below.refl _ _) (Nat.le_refl _) (by simp) ?_; (case hd => rfl); (case hg => rfl); (case hr => first | (go_simp; done) | (go_simp; rfl)); (case hp => exact (Reps.none _ _))
                     intro v311 w68 ho69 hb hg_ hnew_
                     clear hg_ hnew_
                     (first | rw [← Ny310.out] at ho69 | (simp only [Int.reduceToNat] at ho69; rw [← Ny310.out] at ho69))
                     replace HO296 := Aside0.mk (Kd.R_below (zr_ HO296.out) hb)
                     replace HO306 := Aside0.mk (Kd.R_below (zr_ HO306.out) hb)
                     have HO312 := Aside0.mk (Kd.R_lower (Kd.R_new' ho69 (Kd.R_lt (zr_ HO302.out))) (below_size (zw3_ HB GE284 GE285 GE303)))
                     replace HO302 := Aside0.mk (Kd.R_elder' (zr_ HO302.out) (Kd.R_base ho69) hb)
                     replace BK284 := Aside0.mk (zl_ BK284 hb)
                     replace BK285 := Aside0.mk (zl_ BK285 hb)
                     replace BK303 := Aside0.mk (zl_ BK303 hb)
                     replace HB := Aside0.mk (below_step (zw3_ HB GE284 GE285 GE303) hb)
                     clear hb ho69
                     refine hK.out _ _ ⟨(blk_cell BK285.out 0).trans rfl, (blk_cell BK285.out 1).trans rfl⟩ (fun hHeld => ?_)
                     clear hK K
                     refine zq_ (some 44) (h := ?_)
                     exact zj_ (hJ0_4 (v305, v311) _ ⟨hHeld, (zr_ HO296.out), (zr_ (Kd.R_mono HO302.out (fun _ hk => hk.2))), (zr_ HO306.out), (zr_ (Kd.R_mono HO312.out (fun _ hk => hk.2))), (zb_ BK284), (zb_ BK285), (zb_ BK303), (zw3_ HB GE284 GE285 GE303)⟩)
                    ·skip
                     refine box_step ?hg (N := 6) ?hd (cs := #[.slice none 0 0, .slice none 0 0]) (t := 27) ?hr ?_; (case hd => rfl); (case hg => rfl); (case hr => first | (go_simp; done) | (go_simp; rfl))
                     intro gb316 hg w68 hbox hb
                     replace HO296 := Aside0.mk (Kd.R_below (zr_ HO296.out) hb)
                     replace HO302 := Aside0.mk (Kd.R_below (zr_ HO302.out) hb)
                     replace HO306 := Aside0.mk (Kd.R_below (zr_ HO306.out) hb)
                     have BK316 := Aside0.mk (hbox)
                     have GW316 := Aside0.mk (zs_ hg (zw3_ HB GE284 GE285 GE303))
                     have GE316 := Aside0.mk (zs_ hg (zw3_ HB GE284 GE285 GE303))
                     replace HB := Aside0.mk (below_step (zw3_ HB GE284 GE285 GE303) hb)
                     have NB284_316 := Aside0.mk (zn_ hg BK284)
                     have NB316_284 := Aside0.mk (zm_ hg BK284)
                     replace BK284 := Aside0.mk (zl_ BK284 hb)
                     have NB285_316 := Aside0.mk (zn_ hg BK285)
                     have NB316_285 := Aside0.mk (zm_ hg BK285)
                     replace BK285 := Aside0.mk (zl_ BK285 hb)
                     have NB303_316 := Aside0.mk (zn_ hg BK303)
                     have NB316_303 := Aside0.mk (zm_ hg BK303)
                     replace BK303 := Aside0.mk (zl_ BK303 hb)
                     clear hb hbox hg
                     refine hK.out _ _ ⟨(blk_cell BK285.out 0).trans rfl, (blk_cell BK285.out 1).trans rfl⟩ (fun hHeld => ?_)
                     clear hK K
                     refine zq_ (some 6) (h := ?_)
                     exact zj_ (hJ0_9 (v305, gb316) _ ⟨hHeld, (zr_ HO296.out), (zr_ HO302.out), (zr_ HO306.out), (zb_ BK284), (zb_ BK285), (zb_ BK303), (zb_ BK316), GW316.out, GE316.out, NB284_316.out, NB316_284.out, NB285_316.out, NB316_285.out, NB303_316.out, NB316_303.out, (zw4_ HB GE284 GE285 GE303 GE316)⟩)
                  ·skip
                   rintro ⟨v311, gb316⟩ w68 ⟨hS_, h0_, h1_, h2_, h3_, h4_, h5_, h6_, h7_, h8_, h9_, h10_, h11_, h12_, h13_, h14_, h15_⟩
                   (try dsimp only at h0_ h1_ h2_ h3_ h4_ h5_ h6_ h7_ h8_ h9_ h10_ h11_ h12_ h13_ h14_ h15_)
                   clear HO296 HO302 BK284 BK285 BK303 HB
                   have HO296 := Aside0.mk h0_
                   have HO302 := Aside0.mk h1_
                   have HO312 := Aside0.mk h2_
                   have BK284 := Aside0.mk h3_
                   have BK285 := Aside0.mk h4_
                   have BK303 := Aside0.mk h5_
                   have BK316 := Aside0.mk h6_
                   have GW316 := Aside0.mk h7_
                   have GE316 := Aside0.mk h8_
                   have NB284_316 := Aside0.mk h9_
                   have NB316_284 := Aside0.mk h10_
                   have NB285_316 := Aside0.mk h11_
                   have NB316_285 := Aside0.mk h12_
                   have NB303_316 := Aside0.mk h13_
                   have NB316_303 := Aside0.mk h14_
                   have HB := Aside0.mk h15_
                   clear h0_ h1_ h2_ h3_ h4_ h5_ h6_ h7_ h8_ h9_ h10_ h11_ h12_ h13_ h14_ h15_
                   have hHeld : w68.cell? ⟨gb285, 0, none⟩ = some (.slice A1_0 l1_0.length c1_0) ∧ w68.cell? ⟨gb285, 1, none⟩ = some (.slice A1_1 l1_1.length c1_1) := hS_
                   refine zi_ (h := ?_)
                   refine one_ (i := 0) (N := some 40) #[true, true, true, false, true, true, true, false, false, true, false] rfl rfl (one_of HT_.out (by kernel_rfl)) (by decide) (fun K hK => ?_)
                   refine Kd.R_lit_step (Kd.int .i64) _ 3 ?hg (N := 40) ?hd (xs := ([] : List Int)) (inner := []) (ok := fun _ => True) (okp := fun _ => True) ?hr ?hp (fun _ hk => hk) trivial (Below.refl _ _) (Nat.le_refl _) (by simp) ?_; (case hd => rfl); (case hg => rfl); (case hr => first | (go_simp; done) | (go_simp; rfl)); (case hp => exact (Reps.none _ _))
                   intro v305 w69 ho70 hb hg_ hnew_
                   clear hg_ hnew_
                   (first | rw [← Ny304.out] at ho70 | (simp only [Int.reduceToNat] at ho70; rw [← Ny304.out] at ho70))
                   replace HO302 := Aside0.mk (Kd.R_below (zr_ HO302.out) hb)
                   replace HO312 := Aside0.mk (Kd.R_below (zr_ HO312.out) hb)
                   have HO306 := Aside0.mk (Kd.R_lower (Kd.R_new' ho70 (Kd.R_lt (zr_ HO296.out))) (below_size (zw4_ HB GE284 GE285 GE303 GE316)))
                   replace HO296 := Aside0.mk (Kd.R_elder' (zr_ HO296.out) (Kd.R_base ho70) hb)
                   replace BK284 := Aside0.mk (zl_ BK284 hb)
                   replace BK285 := Aside0.mk (zl_ BK285 hb)
                   replace BK303 := Aside0.mk (zl_ BK303 hb)
                   replace BK316 := Aside0.mk (zl_ BK316 hb)
                   replace HB := Aside0.mk (below_step (zw4_ HB GE284 GE285 GE303 GE316) hb)
                   clear hb ho70
                   refine hK.out _ _ ⟨(blk_cell BK285.out 0).trans rfl, (blk_cell BK285.out 1).trans rfl⟩ (fun hHeld => ?_)
                   clear hK K
                   refine zq_ (some 40) (h := ?_)
                   exact zj_ (hJ0_4_9 (v305, v311, gb316) _ ⟨hHeld, (zr_ (Kd.R_mono HO296.out (fun _ hk => hk.2))), (zr_ HO302.out), (zr_ (Kd.R_mono HO306.out (fun _ hk => hk.2))), (zr_ HO312.out), (zb_ BK284), (zb_ BK285), (zb_ BK303), (zb_ BK316), GW316.out, GE316.out, NB284_316.out, NB316_284.out, NB285_316.out, NB316_285.out, NB303_316.out, NB316_303.out, (zw4_ HB GE284 GE285 GE303 GE316)⟩)
                 ·skip
                  rintro ⟨v305, gb316⟩ w68 ⟨hS_, h0_, h1_, h2_, h3_, h4_, h5_, h6_, h7_, h8_, h9_, h10_, h11_, h12_, h13_, h14_, h15_⟩
                  (try dsimp only at h0_ h1_ h2_ h3_ h4_ h5_ h6_ h7_ h8_ h9_ h10_ h11_ h12_ h13_ h14_ h15_)
                  clear HO296 HO302 BK284 BK285 BK303 HB
                  have HO296 := Aside0.mk h0_
                  have HO302 := Aside0.mk h1_
                  have HO306 := Aside0.mk h2_
                  have BK284 := Aside0.mk h3_
                  have BK285 := Aside0.mk h4_
                  have BK303 := Aside0.mk h5_
                  have BK316 := Aside0.mk h6_
                  have GW316 := Aside0.mk h7_
                  have GE316 := Aside0.mk h8_
                  have NB284_316 := Aside0.mk h9_
                  have NB316_284 := Aside0.mk h10_
                  have NB285_316 := Aside0.mk h11_
                  have NB316_285 := Aside0.mk h12_
                  have NB303_316 := Aside0.mk h13_
                  have NB316_303 := Aside0.mk h14_
                  have HB := Aside0.mk h15_
                  clear h0_ h1_ h2_ h3_ h4_ h5_ h6_ h7_ h8_ h9_ h10_ h11_ h12_ h13_ h14_ h15_
                  have hHeld : w68.cell? ⟨gb285, 0, none⟩ = some (.slice A1_0 l1_0.length c1_0) ∧ w68.cell? ⟨gb285, 1, none⟩ = some (.slice A1_1 l1_1.length c1_1) := hS_
                  refine zi_ (h := ?_)
                  refine two_ (i := 3) (j := 4) (Ni := some 43) (Nj := some 44) #[true, true, true, true, false, true, true, false, false, true, false] #[true, true, true, false, true, true, true, false, false, true, false] rfl rfl rfl rfl (two_of HT_.out (by kernel_rfl)) (by decide) (by decide) (fun K hK => ?_) (fun K hK => ?_)
                  ·skip
                   refine Kd.R_append_rows_step (Kd.int .i64) (w0 := w) w.heap.size (by rfl) (.tmp 40) (.tmp 42) 22 3 (.int .i64 0) 8 rfl Try.underlying22 info3 rfl (by decide) (by omega) v305 y304 l1_0 _ _ _ (fun k_ => some k_ ≠ (.slice Ao60 y294.length co60 : Value).ownBlock) (fun _ => False) rfl rfl ?aO ?aR (fun _ _ h => h) (fun _ h => h.elim) ?aF ?aB ?aS ?aL ?_
                   (case aR => exact zk_ (Kd.C_below HR1_0.out HB.out))
                   (case aB => exact (zw4_ HB GE284 GE285 GE303 GE316))
                   (case aF => exact (fun k_ hk => Kd.fresh' (Kd.R_lt (zr_ HO296.out)) k_ hk))
                   (case aO => exact (zr_ HO306.out))
                   (case aS => exact (below_size (zw4_ HB GE284 GE285 GE303 GE316)))
                   (case aL => have := LMc43.out; omega)
                   intro v308 w69 ho hb hg hat
                   rw [← Ny307.out] at ho
                   replace BK284 := Aside0.mk (zh_ BK284 hg (Kd.R_ne HO306.out BK284.out (by decide)))
                   replace BK285 := Aside0.mk (zh_ BK285 hg (Kd.R_ne HO306.out BK285.out (by decide)))
                   replace HO296 := Aside0.mk (Kd.R_after (ok := (fun _ => True)) (zr_ (Kd.R_mono HO296.out (fun _ hk => ⟨trivial, hk⟩))) hg hat)
                   replace HO302 := Aside0.mk (Kd.R_over' (zr_ HO302.out) (Kd.R_typed (zr_ HO306.out)) (by decide) hg)
                   replace BK303 := Aside0.mk (zh_ BK303 hg (Kd.R_ne HO306.out BK303.out (by decide)))
                   replace BK316 := Aside0.mk (zh_ BK316 hg (Kd.R_ne HO306.out BK316.out (by decide)))
                   replace HB := Aside0.mk (hb)
                   have HO309 := Aside0.mk (ho)
                   clear HO306
                   clear ho hb hg hat
                   refine hK.out _ _ ⟨(blk_cell BK285.out 0).trans rfl, (blk_cell BK285.out 1).trans rfl⟩ (fun hHeld => ?_)
                   clear hK K
                   refine zq_ (some 43) (h := ?_)
                   exact zj_ (hJ0_3_9 (v305, v308, gb316) _ ⟨hHeld, (zr_ (Kd.R_mono HO296.out (fun _ hk => hk.2))), (zr_ HO302.out), (zr_ HO309.out), (zb_ BK284), (zb_ BK285), (zb_ BK303), (zb_ BK316), GW316.out, GE316.out, NB284_316.out, NB316_284.out, NB285_316.out, NB316_285.out, NB303_316.out, NB316_303.out, (zw4_ HB GE284 GE285 GE303 GE316)⟩)
                  ·skip
                   refine Kd.R_lit_step (Kd.int .i64) _ 23 ?hg (N := 44) ?hd (xs := ([] : List Int)) (inner := []) (ok := fun _ => True) (okp := fun _ => True) ?hr ?hp (fun _ hk => hk) trivial (Below.refl _ _) (Nat.le_refl _) (by simp) ?_; (case hd => rfl); (case hg => rfl); (case hr => first | (go_simp; done) | (go_simp; rfl)); (case hp => exact (Reps.none _ _))
                   intro v311 w69 ho70 hb hg_ hnew_
                   clear hg_ hnew_
                   (first | rw [← Ny310.out] at ho70 | (simp only [Int.reduceToNat] at ho70; rw [← Ny310.out] at ho70))
                   replace HO296 := Aside0.mk (Kd.R_below (zr_ HO296.out) hb)
                   replace HO306 := Aside0.mk (Kd.R_below (zr_ HO306.out) hb)
                   have HO312 := Aside0.mk (Kd.R_lower (Kd.R_new' ho70 (Kd.R_lt (zr_ HO302.out))) (below_size (zw4_ HB GE284 GE285 GE303 GE316)))
                   replace HO302 := Aside0.mk (Kd.R_elder' (zr_ HO302.out) (Kd.R_base ho70) hb)
                   replace BK284 := Aside0.mk (zl_ BK284 hb)
                   replace BK285 := Aside0.mk (zl_ BK285 hb)
                   replace BK303 := Aside0.mk (zl_ BK303 hb)
                   replace BK316 := Aside0.mk (zl_ BK316 hb)
                   replace HB := Aside0.mk (below_step (zw4_ HB GE284 GE285 GE303 GE316) hb)
                   clear hb ho70
                   refine hK.out _ _ ⟨(blk_cell BK285.out 0).trans rfl, (blk_cell BK285.out 1).trans rfl⟩ (fun hHeld => ?_)
                   clear hK K
                   refine zq_ (some 44) (h := ?_)
                   exact zj_ (hJ0_4_9 (v305, v311, gb316) _ ⟨hHeld, (zr_ HO296.out), (zr_ (Kd.R_mono HO302.out (fun _ hk => hk.2))), (zr_ HO306.out), (zr_ (Kd.R_mono HO312.out (fun _ hk => hk.2))), (zb_ BK284), (zb_ BK285), (zb_ BK303), (zb_ BK316), GW316.out, GE316.out, NB284_316.out, NB316_284.out, NB285_316.out, NB316_285.out, NB303_316.out, NB316_303.out, (zw4_ HB GE284 GE285 GE303 GE316)⟩)
                ·skip
                 rintro ⟨v305, v311⟩ w69 ⟨hS_, h0_, h1_, h2_, h3_, h4_, h5_, h6_, h7_⟩
                 (try dsimp only at h0_ h1_ h2_ h3_ h4_ h5_ h6_ h7_)
                 clear HO296 HO302 BK284 BK285 BK303 HB
                 have HO296 := Aside0.mk h0_
                 have HO302 := Aside0.mk h1_
                 have HO306 := Aside0.mk h2_
                 have HO312 := Aside0.mk h3_
                 have BK284 := Aside0.mk h4_
                 have BK285 := Aside0.mk h5_
                 have BK303 := Aside0.mk h6_
                 have HB := Aside0.mk h7_
                 clear h0_ h1_ h2_ h3_ h4_ h5_ h6_ h7_
                 have hHeld : w69.cell? ⟨gb285, 0, none⟩ = some (.slice A1_0 l1_0.length c1_0) ∧ w69.cell? ⟨gb285, 1, none⟩ = some (.slice A1_1 l1_1.length c1_1) := hS_
                 refine zi_ (h := ?_)
                 refine two_ (i := 3) (j := 9) (Ni := some 43) (Nj := some 6) #[true, true, true, true, true, true, true, false, false, false, false] #[true, true, true, false, true, true, true, false, false, true, false] rfl rfl rfl rfl (two_of HT_.out (by kernel_rfl)) (by decide) (by decide) (fun K hK => ?_) (fun K hK => ?_)
                 ·skip
                  refine Kd.R_append_rows_step (Kd.int .i64) (w0 := w) w.heap.size (by rfl) (.tmp 40) (.tmp 42) 22 3 (.int .i64 0) 8 rfl Try.underlying22 info3 rfl (by decide) (by omega) v305 y304 l1_0 _ _ _ (fun k_ => some k_ ≠ (.slice Ao60 y294.length co60 : Value).ownBlock) (fun _ => False) rfl rfl ?aO ?aR (fun _ _ h => h) (fun _ h => h.elim) ?aF ?aB ?aS ?aL ?_
                  (case aR => exact zk_ (Kd.C_below HR1_0.out HB.out))
                  (case aB => exact (zw3_ HB GE284 GE285 GE303))
                  (case aF => exact (fun k_ hk => Kd.fresh' (Kd.R_lt (zr_ HO296.out)) k_ hk))
                  (case aO => exact (zr_ HO306.out))
                  (case aS => exact (below_size (zw3_ HB GE284 GE285 GE303)))
                  (case aL => have := LMc43.out; omega)
                  intro v308 w70 ho hb hg hat
                  rw [← Ny307.out] at ho
                  replace BK284 := Aside0.mk (zh_ BK284 hg (Kd.R_ne HO306.out BK284.out (by decide)))
                  replace BK285 := Aside0.mk (zh_ BK285 hg (Kd.R_ne HO306.out BK285.out (by decide)))
                  replace HO296 := Aside0.mk (Kd.R_after (ok := (fun _ => True)) (zr_ (Kd.R_mono HO296.out (fun _ hk => ⟨trivial, hk⟩))) hg hat)
                  replace HO302 := Aside0.mk (Kd.R_over' (zr_ HO302.out) (Kd.R_typed (zr_ HO306.out)) (by decide) hg)
                  replace BK303 := Aside0.mk (zh_ BK303 hg (Kd.R_ne HO306.out BK303.out (by decide)))
                  replace HO312 := Aside0.mk (Kd.R_over' (zr_ HO312.out) (Kd.R_typed (zr_ HO306.out)) (by decide) hg)
                  replace HB := Aside0.mk (hb)
                  have HO309 := Aside0.mk (ho)
                  clear HO306
                  clear ho hb hg hat
                  refine hK.out _ _ ⟨(blk_cell BK285.out 0).trans rfl, (blk_cell BK285.out 1).trans rfl⟩ (fun hHeld => ?_)
                  clear hK K
                  refine zq_ (some 43) (h := ?_)
                  exact zj_ (hJ0_3_4 (v305, v308, v311) _ ⟨hHeld, (zr_ (Kd.R_mono HO296.out (fun _ hk => hk.2))), (zr_ HO302.out), (zr_ HO309.out), (zr_ HO312.out), (zb_ BK284), (zb_ BK285), (zb_ BK303), (zw3_ HB GE284 GE285 GE303)⟩)
                 ·skip
                  refine box_step ?hg (N := 6) ?hd (cs := #[.slice none 0 0, .slice none 0 0]) (t := 27) ?hr ?_; (case hd => rfl); (case hg => rfl); (case hr => first | (go_simp; done) | (go_simp; rfl))
                  intro gb316 hg w70 hbox hb
                  replace HO296 := Aside0.mk (Kd.R_below (zr_ HO296.out) hb)
                  replace HO302 := Aside0.mk (Kd.R_below (zr_ HO302.out) hb)
                  replace HO306 := Aside0.mk (Kd.R_below (zr_ HO306.out) hb)
                  replace HO312 := Aside0.mk (Kd.R_below (zr_ HO312.out) hb)
                  have BK316 := Aside0.mk (hbox)
                  have GW316 := Aside0.mk (zs_ hg (zw3_ HB GE284 GE285 GE303))
                  have GE316 := Aside0.mk (zs_ hg (zw3_ HB GE284 GE285 GE303))
                  replace HB := Aside0.mk (below_step (zw3_ HB GE284 GE285 GE303) hb)
                  have NB284_316 := Aside0.mk (zn_ hg BK284)
                  have NB316_284 := Aside0.mk (zm_ hg BK284)
                  replace BK284 := Aside0.mk (zl_ BK284 hb)
                  have NB285_316 := Aside0.mk (zn_ hg BK285)
                  have NB316_285 := Aside0.mk (zm_ hg BK285)
                  replace BK285 := Aside0.mk (zl_ BK285 hb)
                  have NB303_316 := Aside0.mk (zn_ hg BK303)
                  have NB316_303 := Aside0.mk (zm_ hg BK303)
                  replace BK303 := Aside0.mk (zl_ BK303 hb)
                  clear hb hbox hg
                  refine hK.out _ _ ⟨(blk_cell BK285.out 0).trans rfl, (blk_cell BK285.out 1).trans rfl⟩ (fun hHeld => ?_)
                  clear hK K
                  refine zq_ (some 6) (h := ?_)
                  exact zj_ (hJ0_4_9 (v305, v311, gb316) _ ⟨hHeld, (zr_ HO296.out), (zr_ HO302.out), (zr_ HO306.out), (zr_ HO312.out), (zb_ BK284), (zb_ BK285), (zb_ BK303), (zb_ BK316), GW316.out, GE316.out, NB284_316.out, NB316_284.out, NB285_316.out, NB316_285.out, NB303_316.out, NB316_303.out, (zw4_ HB GE284 GE285 GE303 GE316)⟩)
               ·skip
                rintro ⟨v305, v308⟩ w68 ⟨hS_, h0_, h1_, h2_, h3_, h4_, h5_, h6_⟩
                (try dsimp only at h0_ h1_ h2_ h3_ h4_ h5_ h6_)
                clear HO296 HO302 BK284 BK285 BK303 HB
                have HO296 := Aside0.mk h0_
                have HO302 := Aside0.mk h1_
                have HO309 := Aside0.mk h2_
                have BK284 := Aside0.mk h3_
                have BK285 := Aside0.mk h4_
                have BK303 := Aside0.mk h5_
                have HB := Aside0.mk h6_
                clear h0_ h1_ h2_ h3_ h4_ h5_ h6_
                have hHeld : w68.cell? ⟨gb285, 0, none⟩ = some (.slice A1_0 l1_0.length c1_0) ∧ w68.cell? ⟨gb285, 1, none⟩ = some (.slice A1_1 l1_1.length c1_1) := hS_
                refine zi_ (h := ?_)
                refine two_ (i := 4) (j := 9) (Ni := some 44) (Nj := some 6) #[true, true, true, true, true, true, true, false, false, false, false] #[true, true, true, true, false, true, true, false, false, true, false] rfl rfl rfl rfl (two_of HT_.out (by kernel_rfl)) (by decide) (by decide) (fun K hK => ?_) (fun K hK => ?_)
                ·skip
                 refine Kd.R_lit_step (Kd.int .i64) _ 23 ?hg (N := 44) ?hd (xs := ([] : List Int)) (inner := []) (ok := fun _ => True) (okp := fun _ => True) ?hr ?hp (fun _ hk => hk) trivial (Below.refl _ _) (Nat.le_refl _) (by simp) ?_; (case hd => rfl); (case hg => rfl); (case hr => first | (go_simp; done) | (go_simp; rfl)); (case hp => exact (Reps.none _ _))
                 intro v311 w69 ho70 hb hg_ hnew_
                 clear hg_ hnew_
                 (first | rw [← Ny310.out] at ho70 | (simp only [Int.reduceToNat] at ho70; rw [← Ny310.out] at ho70))
                 replace HO296 := Aside0.mk (Kd.R_below (zr_ HO296.out) hb)
                 replace HO309 := Aside0.mk (Kd.R_below (zr_ HO309.out) hb)
                 have HO312 := Aside0.mk (Kd.R_lower (Kd.R_new' ho70 (Kd.R_lt (zr_ HO302.out))) (below_size (zw3_ HB GE284 GE285 GE303)))
                 replace HO302 := Aside0.mk (Kd.R_elder' (zr_ HO302.out) (Kd.R_base ho70) hb)
                 replace BK284 := Aside0.mk (zl_ BK284 hb)
                 replace BK285 := Aside0.mk (zl_ BK285 hb)
                 replace BK303 := Aside0.mk (zl_ BK303 hb)
                 replace HB := Aside0.mk (below_step (zw3_ HB GE284 GE285 GE303) hb)
                 clear hb ho70
                 refine hK.out _ _ ⟨(blk_cell BK285.out 0).trans rfl, (blk_cell BK285.out 1).trans rfl⟩ (fun hHeld => ?_)
                 clear hK K
                 refine zq_ (some 44) (h := ?_)
                 exact zj_ (hJ0_3_4 (v305, v308, v311) _ ⟨hHeld, (zr_ HO296.out), (zr_ (Kd.R_mono HO302.out (fun _ hk => hk.2))), (zr_ HO309.out), (zr_ (Kd.R_mono HO312.out (fun _ hk => hk.2))), (zb_ BK284), (zb_ BK285), (zb_ BK303), (zw3_ HB GE284 GE285 GE303)⟩)
                ·skip
                 refine box_step ?hg (N := 6) ?hd (cs := #[.slice none 0 0, .slice none 0 0]) (t := 27) ?hr ?_; (case hd => rfl); (case hg => rfl); (case hr => first | (go_simp; done) | (go_simp; rfl))
                 intro gb316 hg w69 hbox hb
                 replace HO296 := Aside0.mk (Kd.R_below (zr_ HO296.out) hb)
                 replace HO302 := Aside0.mk (Kd.R_below (zr_ HO302.out) hb)
                 replace HO309 := Aside0.mk (Kd.R_below (zr_ HO309.out) hb)
                 have BK316 := Aside0.mk (hbox)
                 have GW316 := Aside0.mk (zs_ hg (zw3_ HB GE284 GE285 GE303))
                 have GE316 := Aside0.mk (zs_ hg (zw3_ HB GE284 GE285 GE303))
                 replace HB := Aside0.mk (below_step (zw3_ HB GE284 GE285 GE303) hb)
                 have NB284_316 := Aside0.mk (zn_ hg BK284)
                 have NB316_284 := Aside0.mk (zm_ hg BK284)
                 replace BK284 := Aside0.mk (zl_ BK284 hb)
                 have NB285_316 := Aside0.mk (zn_ hg BK285)
                 have NB316_285 := Aside0.mk (zm_ hg BK285)
                 replace BK285 := Aside0.mk (zl_ BK285 hb)
                 have NB303_316 := Aside0.mk (zn_ hg BK303)
                 have NB316_303 := Aside0.mk (zm_ hg BK303)
                 replace BK303 := Aside0.mk (zl_ BK303 hb)
                 clear hb hbox hg
                 refine hK.out _ _ ⟨(blk_cell BK285.out 0).trans rfl, (blk_cell BK285.out 1).trans rfl⟩ (fun hHeld => ?_)
                 clear hK K
                 refine zq_ (some 6) (h := ?_)
                 exact zj_ (hJ0_3_9 (v305, v308, gb316) _ ⟨hHeld, (zr_ HO296.out), (zr_ HO302.out), (zr_ HO309.out), (zb_ BK284), (zb_ BK285), (zb_ BK303), (zb_ BK316), GW316.out, GE316.out, NB284_316.out, NB316_284.out, NB285_316.out, NB316_285.out, NB303_316.out, NB316_303.out, (zw4_ HB GE284 GE285 GE303 GE316)⟩)
              ·skip
               rintro ⟨v305, v311, gb316⟩ w70 ⟨hS_, h0_, h1_, h2_, h3_, h4_, h5_, h6_, h7_, h8_, h9_, h10_, h11_, h12_, h13_, h14_, h15_, h16_⟩
               (try dsimp only at h0_ h1_ h2_ h3_ h4_ h5_ h6_ h7_ h8_ h9_ h10_ h11_ h12_ h13_ h14_ h15_ h16_)
               clear HO296 HO302 BK284 BK285 BK303 HB
               have HO296 := Aside0.mk h0_
               have HO302 := Aside0.mk h1_
               have HO306 := Aside0.mk h2_
               have HO312 := Aside0.mk h3_
               have BK284 := Aside0.mk h4_
               have BK285 := Aside0.mk h5_
               have BK303 := Aside0.mk h6_
               have BK316 := Aside0.mk h7_
               have GW316 := Aside0.mk h8_
               have GE316 := Aside0.mk h9_
               have NB284_316 := Aside0.mk h10_
               have NB316_284 := Aside0.mk h11_
               have NB285_316 := Aside0.mk h12_
               have NB316_285 := Aside0.mk h13_
               have NB303_316 := Aside0.mk h14_
               have NB316_303 := Aside0.mk h15_
               have HB := Aside0.mk h16_
               clear h0_ h1_ h2_ h3_ h4_ h5_ h6_ h7_ h8_ h9_ h10_ h11_ h12_ h13_ h14_ h15_ h16_
               have hHeld : w70.cell? ⟨gb285, 0, none⟩ = some (.slice A1_0 l1_0.length c1_0) ∧ w70.cell? ⟨gb285, 1, none⟩ = some (.slice A1_1 l1_1.length c1_1) := hS_
               refine zi_ (h := ?_)
               refine one_ (i := 3) (N := some 43) #[true, true, true, true, true, true, true, false, false, true, false] rfl rfl (one_of HT_.out (by kernel_rfl)) (by decide) (fun K hK => ?_)
               refine Kd.R_append_rows_step (Kd.int .i64) (w0 := w) w.heap.size (by rfl) (.tmp 40) (.tmp 42) 22 3 (.int .i64 0) 8 rfl Try.underlying22 info3 rfl (by decide) (by omega) v305 y304 l1_0 _ _ _ (fun k_ => some k_ ≠ (.slice Ao60 y294.length co60 : Value).ownBlock) (fun _ => False) rfl rfl ?aO ?aR (fun _ _ h => h) (fun _ h => h.elim) ?aF ?aB ?aS ?aL ?_
               (case aR => exact zk_ (Kd.C_below HR1_0.out HB.out))
               (case aB => exact (zw4_ HB GE284 GE285 GE303 GE316))
               (case aF => exact (fun k_ hk => Kd.fresh' (Kd.R_lt (zr_ HO296.out)) k_ hk))
               (case aO => exact (zr_ HO306.out))
               (case aS => exact (below_size (zw4_ HB GE284 GE285 GE303 GE316)))
               (case aL => have := LMc43.out; omega)
               intro v308 w71 ho hb hg hat
               rw [← Ny307.out] at ho
               replace BK284 := Aside0.mk (zh_ BK284 hg (Kd.R_ne HO306.out BK284.out (by decide)))
               replace BK285 := Aside0.mk (zh_ BK285 hg (Kd.R_ne HO306.out BK285.out (by decide)))
               replace HO296 := Aside0.mk (Kd.R_after (ok := (fun _ => True)) (zr_ (Kd.R_mono HO296.out (fun _ hk => ⟨trivial, hk⟩))) hg hat)
               replace HO302 := Aside0.mk (Kd.R_over' (zr_ HO302.out) (Kd.R_typed (zr_ HO306.out)) (by decide) hg)
               replace BK303 := Aside0.mk (zh_ BK303 hg (Kd.R_ne HO306.out BK303.out (by decide)))
               replace HO312 := Aside0.mk (Kd.R_over' (zr_ HO312.out) (Kd.R_typed (zr_ HO306.out)) (by decide) hg)
               replace BK316 := Aside0.mk (zh_ BK316 hg (Kd.R_ne HO306.out BK316.out (by decide)))
               replace HB := Aside0.mk (hb)
               have HO309 := Aside0.mk (ho)
               clear HO306
               clear ho hb hg hat
               refine hK.out _ _ ⟨(blk_cell BK285.out 0).trans rfl, (blk_cell BK285.out 1).trans rfl⟩ (fun hHeld => ?_)
               clear hK K
               refine zq_ (some 43) (h := ?_)
               exact zj_ (hJ0_3_4_9 (v305, v308, v311, gb316) _ ⟨hHeld, (zr_ (Kd.R_mono HO296.out (fun _ hk => hk.2))), (zr_ HO302.out), (zr_ HO309.out), (zr_ HO312.out), (zb_ BK284), (zb_ BK285), (zb_ BK303), (zb_ BK316), GW316.out, GE316.out, NB284_316.out, NB316_284.out, NB285_316.out, NB316_285.out, NB303_316.out, NB316_303.out, (zw4_ HB GE284 GE285 GE303 GE316)⟩)
             ·skip
              rintro ⟨v305, v308, gb316⟩ w69 ⟨hS_, h0_, h1_, h2_, h3_, h4_, h5_, h6_, h7_, h8_, h9_, h10_, h11_, h12_, h13_, h14_, h15_⟩
              (try dsimp only at h0_ h1_ h2_ h3_ h4_ h5_ h6_ h7_ h8_ h9_ h10_ h11_ h12_ h13_ h14_ h15_)
              clear HO296 HO302 BK284 BK285 BK303 HB
              have HO296 := Aside0.mk h0_
              have HO302 := Aside0.mk h1_
              have HO309 := Aside0.mk h2_
              have BK284 := Aside0.mk h3_
              have BK285 := Aside0.mk h4_
              have BK303 := Aside0.mk h5_
              have BK316 := Aside0.mk h6_
              have GW316 := Aside0.mk h7_
              have GE316 := Aside0.mk h8_
              have NB284_316 := Aside0.mk h9_
              have NB316_284 := Aside0.mk h10_
              have NB285_316 := Aside0.mk h11_
              have NB316_285 := Aside0.mk h12_
              have NB303_316 := Aside0.mk h13_
              have NB316_303 := Aside0.mk h14_
              have HB := Aside0.mk h15_
              clear h0_ h1_ h2_ h3_ h4_ h5_ h6_ h7_ h8_ h9_ h10_ h11_ h12_ h13_ h14_ h15_
              have hHeld : w69.cell? ⟨gb285, 0, none⟩ = some (.slice A1_0 l1_0.length c1_0) ∧ w69.cell? ⟨gb285, 1, none⟩ = some (.slice A1_1 l1_1.length c1_1) := hS_
              refine zi_ (h := ?_)
              refine one_ (i := 4) (N := some 44) #[true, true, true, true, true, true, true, false, false, true, false] rfl rfl (one_of HT_.out (by kernel_rfl)) (by decide) (fun K hK => ?_)
              refine Kd.R_lit_step (Kd.int .i64) _ 23 ?hg (N := 44) ?hd (xs := ([] : List Int)) (inner := []) (ok := fun _ => True) (okp := fun _ => True) ?hr ?hp (fun _ hk => hk) trivial (Below.refl _ _) (Nat.le_refl _) (by simp) ?_; (case hd => rfl); (case hg => rfl); (case hr => first | (go_simp; done) | (go_simp; rfl)); (case hp => exact (Reps.none _ _))
              intro v311 w70 ho71 hb hg_ hnew_
              clear hg_ hnew_
              (first | rw [← Ny310.out] at ho71 | (simp only [Int.reduceToNat] at ho71; rw [← Ny310.out] at ho71))
              replace HO296 := Aside0.mk (Kd.R_below (zr_ HO296.out) hb)
              replace HO309 := Aside0.mk (Kd.R_below (zr_ HO309.out) hb)
              have HO312 := Aside0.mk (Kd.R_lower (Kd.R_new' ho71 (Kd.R_lt (zr_ HO302.out))) (below_size (zw4_ HB GE284 GE285 GE303 GE316)))
              replace HO302 := Aside0.mk (Kd.R_elder' (zr_ HO302.out) (Kd.R_base ho71) hb)
              replace BK284 := Aside0.mk (zl_ BK284 hb)
              replace BK285 := Aside0.mk (zl_ BK285 hb)
              replace BK303 := Aside0.mk (zl_ BK303 hb)
              replace BK316 := Aside0.mk (zl_ BK316 hb)
              replace HB := Aside0.mk (below_step (zw4_ HB GE284 GE285 GE303 GE316) hb)
              clear hb ho71
              refine hK.out _ _ ⟨(blk_cell BK285.out 0).trans rfl, (blk_cell BK285.out 1).trans rfl⟩ (fun hHeld => ?_)
              clear hK K
              refine zq_ (some 44) (h := ?_)
              exact zj_ (hJ0_3_4_9 (v305, v308, v311, gb316) _ ⟨hHeld, (zr_ HO296.out), (zr_ (Kd.R_mono HO302.out (fun _ hk => hk.2))), (zr_ HO309.out), (zr_ (Kd.R_mono HO312.out (fun _ hk => hk.2))), (zb_ BK284), (zb_ BK285), (zb_ BK303), (zb_ BK316), GW316.out, GE316.out, NB284_316.out, NB316_284.out, NB285_316.out, NB316_285.out, NB303_316.out, NB316_303.out, (zw4_ HB GE284 GE285 GE303 GE316)⟩)
            ·skip
             rintro ⟨v305, v308, v311⟩ w70 ⟨hS_, h0_, h1_, h2_, h3_, h4_, h5_, h6_, h7_⟩
             (try dsimp only at h0_ h1_ h2_ h3_ h4_ h5_ h6_ h7_)
             clear HO296 HO302 BK284 BK285 BK303 HB
             have HO296 := Aside0.mk h0_
             have HO302 := Aside0.mk h1_
             have HO309 := Aside0.mk h2_
             have HO312 := Aside0.mk h3_
             have BK284 := Aside0.mk h4_
             have BK285 := Aside0.mk h5_
             have BK303 := Aside0.mk h6_
             have HB := Aside0.mk h7_
             clear h0_ h1_ h2_ h3_ h4_ h5_ h6_ h7_
             have hHeld : w70.cell? ⟨gb285, 0, none⟩ = some (.slice A1_0 l1_0.length c1_0) ∧ w70.cell? ⟨gb285, 1, none⟩ = some (.slice A1_1 l1_1.length c1_1) := hS_
             refine zi_ (h := ?_)
             refine two_ (i := 7) (j := 9) (Ni := some 47) (Nj := some 6) #[true, true, true, true, true, true, true, true, false, false, false] #[true, true, true, true, true, true, true, false, false, true, false] rfl rfl rfl rfl (two_of HT_.out (by kernel_rfl)) (by decide) (by decide) (fun K hK => ?_) (fun K hK => ?_)
             ·skip
              refine Kd.R_append_rows_step (Kd.int .i64) (w0 := w) w.heap.size (by rfl) (.tmp 44) (.tmp 46) 25 23 (.int .i64 0) 8 rfl Try.underlying25 info23 rfl (by decide) (by omega) v311 y310 l1_1 _ _ _ (fun k_ => some k_ ≠ (.slice Ao59 y300.length co59 : Value).ownBlock) (fun _ => False) rfl rfl ?aO ?aR (fun _ _ h => h) (fun _ h => h.elim) ?aF ?aB ?aS ?aL ?_
              (case aR => exact zk_ (Kd.C_below HR1_1.out HB.out))
              (case aB => exact (zw3_ HB GE284 GE285 GE303))
              (case aF => exact (fun k_ hk => Kd.fresh' (Kd.R_lt (zr_ HO302.out)) k_ hk))
              (case aO => exact (zr_ HO312.out))
              (case aS => exact (below_size (zw3_ HB GE284 GE285 GE303)))
              (case aL => have := LMc44.out; omega)
              intro v314 w71 ho hb hg hat
              rw [← Ny313.out] at ho
              replace BK284 := Aside0.mk (zh_ BK284 hg (Kd.R_ne HO312.out BK284.out (by decide)))
              replace BK285 := Aside0.mk (zh_ BK285 hg (Kd.R_ne HO312.out BK285.out (by decide)))
              replace HO296 := Aside0.mk (Kd.R_over' (zr_ HO296.out) (Kd.R_typed (zr_ HO312.out)) (by decide) hg)
              replace HO302 := Aside0.mk (Kd.R_after (ok := (fun _ => True)) (zr_ (Kd.R_mono HO302.out (fun _ hk => ⟨trivial, hk⟩))) hg hat)
              replace BK303 := Aside0.mk (zh_ BK303 hg (Kd.R_ne HO312.out BK303.out (by decide)))
              replace HO309 := Aside0.mk (Kd.R_over' (zr_ HO309.out) (Kd.R_typed (zr_ HO312.out)) (by decide) hg)
              replace HB := Aside0.mk (hb)
              have HO315 := Aside0.mk (ho)
              clear HO312
              clear ho hb hg hat
              obtain ⟨Ao72, co72, eo72⟩ := Kd.R_slice HO315.out
              (first | subst eo72 | (injection eo72 with f1_ f2_ f3_; have f4_ := f1_.symm; have f5_ := f3_.symm; clear f1_ f2_ f3_; subst f4_; subst f5_))
              obtain ⟨Ao73, co73, eo73⟩ := Kd.R_slice HO309.out
              (first | subst eo73 | (injection eo73 with f1_ f2_ f3_; have f4_ := f1_.symm; have f5_ := f3_.symm; clear f1_ f2_ f3_; subst f4_; subst f5_))
              refine hK.out _ _ ⟨(blk_cell BK285.out 0).trans rfl, (blk_cell BK285.out 1).trans rfl⟩ (fun hHeld => ?_)
              clear hK K
              refine zq_ (some 47) (h := ?_)
              refine zp_ 8 (some 48) (h := ?_)
              exact zj_ (hJ0_3_4_7 (v305, .slice Ao73 y307.length co73, v311, .slice Ao72 y313.length co72) _ ⟨hHeld, (zr_ HO296.out), (zr_ (Kd.R_mono HO302.out (fun _ hk => hk.2))), (zr_ HO309.out), (zr_ HO315.out), (zb_ BK284), (zb_ BK285), (zb_ BK303), (zw3_ HB GE284 GE285 GE303)⟩)
             ·skip
              refine box_step ?hg (N := 6) ?hd (cs := #[.slice none 0 0, .slice none 0 0]) (t := 27) ?hr ?_; (case hd => rfl); (case hg => rfl); (case hr => first | (go_simp; done) | (go_simp; rfl))
              intro gb316 hg w71 hbox hb
              replace HO296 := Aside0.mk (Kd.R_below (zr_ HO296.out) hb)
              replace HO302 := Aside0.mk (Kd.R_below (zr_ HO302.out) hb)
              replace HO309 := Aside0.mk (Kd.R_below (zr_ HO309.out) hb)
              replace HO312 := Aside0.mk (Kd.R_below (zr_ HO312.out) hb)
              have BK316 := Aside0.mk (hbox)
              have GW316 := Aside0.mk (zs_ hg (zw3_ HB GE284 GE285 GE303))
              have GE316 := Aside0.mk (zs_ hg (zw3_ HB GE284 GE285 GE303))
              replace HB := Aside0.mk (below_step (zw3_ HB GE284 GE285 GE303) hb)
              have NB284_316 := Aside0.mk (zn_ hg BK284)
              have NB316_284 := Aside0.mk (zm_ hg BK284)
              replace BK284 := Aside0.mk (zl_ BK284 hb)
              have NB285_316 := Aside0.mk (zn_ hg BK285)
              have NB316_285 := Aside0.mk (zm_ hg BK285)
              replace BK285 := Aside0.mk (zl_ BK285 hb)
              have NB303_316 := Aside0.mk (zn_ hg BK303)
              have NB316_303 := Aside0.mk (zm_ hg BK303)
              replace BK303 := Aside0.mk (zl_ BK303 hb)
              clear hb hbox hg
              refine hK.out _ _ ⟨(blk_cell BK285.out 0).trans rfl, (blk_cell BK285.out 1).trans rfl⟩ (fun hHeld => ?_)
              clear hK K
              refine zq_ (some 6) (h := ?_)
              exact zj_ (hJ0_3_4_9 (v305, v308, v311, gb316) _ ⟨hHeld, (zr_ HO296.out), (zr_ HO302.out), (zr_ HO309.out), (zr_ HO312.out), (zb_ BK284), (zb_ BK285), (zb_ BK303), (zb_ BK316), GW316.out, GE316.out, NB284_316.out, NB316_284.out, NB285_316.out, NB316_285.out, NB303_316.out, NB316_303.out, (zw4_ HB GE284 GE285 GE303 GE316)⟩)
           ·skip
            rintro ⟨v305, v308, v311, gb316⟩ w71 ⟨hS_, h0_, h1_, h2_, h3_, h4_, h5_, h6_, h7_, h8_, h9_, h10_, h11_, h12_, h13_, h14_, h15_, h16_⟩
            (try dsimp only at h0_ h1_ h2_ h3_ h4_ h5_ h6_ h7_ h8_ h9_ h10_ h11_ h12_ h13_ h14_ h15_ h16_)
            clear HO296 HO302 BK284 BK285 BK303 HB
            have HO296 := Aside0.mk h0_
            have HO302 := Aside0.mk h1_
            have HO309 := Aside0.mk h2_
            have HO312 := Aside0.mk h3_
            have BK284 := Aside0.mk h4_
            have BK285 := Aside0.mk h5_
            have BK303 := Aside0.mk h6_
            have BK316 := Aside0.mk h7_
            have GW316 := Aside0.mk h8_
            have GE316 := Aside0.mk h9_
            have NB284_316 := Aside0.mk h10_
            have NB316_284 := Aside0.mk h11_
            have NB285_316 := Aside0.mk h12_
            have NB316_285 := Aside0.mk h13_
            have NB303_316 := Aside0.mk h14_
            have NB316_303 := Aside0.mk h15_
            have HB := Aside0.mk h16_
            clear h0_ h1_ h2_ h3_ h4_ h5_ h6_ h7_ h8_ h9_ h10_ h11_ h12_ h13_ h14_ h15_ h16_
            have hHeld : w71.cell? ⟨gb285, 0, none⟩ = some (.slice A1_0 l1_0.length c1_0) ∧ w71.cell? ⟨gb285, 1, none⟩ = some (.slice A1_1 l1_1.length c1_1) := hS_
            refine zi_ (h := ?_)
            refine one_ (i := 7) (N := some 47) #[true, true, true, true, true, true, true, true, false, true, false] rfl rfl (one_of HT_.out (by kernel_rfl)) (by decide) (fun K hK => ?_)
            refine Kd.R_append_rows_step (Kd.int .i64) (w0 := w) w.heap.size (by rfl) (.tmp 44) (.tmp 46) 25 23 (.int .i64 0) 8 rfl Try.underlying25 info23 rfl (by decide) (by omega) v311 y310 l1_1 _ _ _ (fun k_ => some k_ ≠ (.slice Ao59 y300.length co59 : Value).ownBlock) (fun _ => False) rfl rfl ?aO ?aR (fun _ _ h => h) (fun _ h => h.elim) ?aF ?aB ?aS ?aL ?_
            (case aR => exact zk_ (Kd.C_below HR1_1.out HB.out))
            (case aB => exact (zw4_ HB GE284 GE285 GE303 GE316))
            (case aF => exact (fun k_ hk => Kd.fresh' (Kd.R_lt (zr_ HO302.out)) k_ hk))
            (case aO => exact (zr_ HO312.out))
            (case aS => exact (below_size (zw4_ HB GE284 GE285 GE303 GE316)))
            (case aL => have := LMc44.out; omega)
            intro v314 w72 ho hb hg hat
            rw [← Ny313.out] at ho
            replace BK284 := Aside0.mk (zh_ BK284 hg (Kd.R_ne HO312.out BK284.out (by decide)))
            replace BK285 := Aside0.mk (zh_ BK285 hg (Kd.R_ne HO312.out BK285.out (by decide)))
            replace HO296 := Aside0.mk (Kd.R_over' (zr_ HO296.out) (Kd.R_typed (zr_ HO312.out)) (by decide) hg)
            replace HO302 := Aside0.mk (Kd.R_after (ok := (fun _ => True)) (zr_ (Kd.R_mono HO302.out (fun _ hk => ⟨trivial, hk⟩))) hg hat)
            replace BK303 := Aside0.mk (zh_ BK303 hg (Kd.R_ne HO312.out BK303.out (by decide)))
            replace HO309 := Aside0.mk (Kd.R_over' (zr_ HO309.out) (Kd.R_typed (zr_ HO312.out)) (by decide) hg)
            replace BK316 := Aside0.mk (zh_ BK316 hg (Kd.R_ne HO312.out BK316.out (by decide)))
            replace HB := Aside0.mk (hb)
            have HO315 := Aside0.mk (ho)
            clear HO312
            clear ho hb hg hat
            obtain ⟨Ao73, co73, eo73⟩ := Kd.R_slice HO315.out
            (first | subst eo73 | (injection eo73 with f1_ f2_ f3_; have f4_ := f1_.symm; have f5_ := f3_.symm; clear f1_ f2_ f3_; subst f4_; subst f5_))
            obtain ⟨Ao74, co74, eo74⟩ := Kd.R_slice HO309.out
            (first | subst eo74 | (injection eo74 with f1_ f2_ f3_; have f4_ := f1_.symm; have f5_ := f3_.symm; clear f1_ f2_ f3_; subst f4_; subst f5_))
            refine hK.out _ _ ⟨(blk_cell BK285.out 0).trans rfl, (blk_cell BK285.out 1).trans rfl⟩ (fun hHeld => ?_)
            clear hK K
            refine zq_ (some 47) (h := ?_)
            refine zp_ 8 (some 48) (h := ?_)
            exact zj_ (hJ0_3_4_7_9 (v305, .slice Ao74 y307.length co74, v311, .slice Ao73 y313.length co73, gb316) _ ⟨hHeld, (zr_ HO296.out), (zr_ (Kd.R_mono HO302.out (fun _ hk => hk.2))), (zr_ HO309.out), (zr_ HO315.out), (zb_ BK284), (zb_ BK285), (zb_ BK303), (zb_ BK316), GW316.out, GE316.out, NB284_316.out, NB316_284.out, NB285_316.out, NB316_285.out, NB303_316.out, NB316_303.out, (zw4_ HB GE284 GE285 GE303 GE316)⟩)
          ·skip
           rintro ⟨v305, v308, v311, v314⟩ w73 ⟨hS_, h0_, h1_, h2_, h3_, h4_, h5_, h6_, h7_⟩
           (try dsimp only at h0_ h1_ h2_ h3_ h4_ h5_ h6_ h7_)
           clear HO296 HO302 BK284 BK285 BK303 HB
           have HO296 := Aside0.mk h0_
           have HO302 := Aside0.mk h1_
           have HO309 := Aside0.mk h2_
           have HO315 := Aside0.mk h3_
           have BK284 := Aside0.mk h4_
           have BK285 := Aside0.mk h5_
           have BK303 := Aside0.mk h6_
           have HB := Aside0.mk h7_
           clear h0_ h1_ h2_ h3_ h4_ h5_ h6_ h7_
           have hHeld : w73.cell? ⟨gb285, 0, none⟩ = some (.slice A1_0 l1_0.length c1_0) ∧ w73.cell? ⟨gb285, 1, none⟩ = some (.slice A1_1 l1_1.length c1_1) := hS_
           obtain ⟨Ao74, co74, eo74⟩ := Kd.R_slice HO315.out
           (first | subst eo74 | (injection eo74 with f1_ f2_ f3_; have f4_ := f1_.symm; have f5_ := f3_.symm; clear f1_ f2_ f3_; subst f4_; subst f5_))
           obtain ⟨Ao75, co75, eo75⟩ := Kd.R_slice HO309.out
           (first | subst eo75 | (injection eo75 with f1_ f2_ f3_; have f4_ := f1_.symm; have f5_ := f3_.symm; clear f1_ f2_ f3_; subst f4_; subst f5_))
           refine zi_ (h := ?_)
           refine one_ (i := 9) (N := some 6) #[true, true, true, true, true, true, true, true, true, true, false] rfl rfl (one_of HT_.out (by kernel_rfl)) (by decide) (fun K hK => ?_)
           refine box_step ?hg (N := 6) ?hd (cs := #[.slice none 0 0, .slice none 0 0]) (t := 27) ?hr ?_; (case hd => rfl); (case hg => rfl); (case hr => first | (go_simp; done) | (go_simp; rfl))
           intro gb316 hg w76 hbox hb
           replace HO296 := Aside0.mk (Kd.R_below (zr_ HO296.out) hb)
           replace HO302 := Aside0.mk (Kd.R_below (zr_ HO302.out) hb)
           replace HO309 := Aside0.mk (Kd.R_below (zr_ HO309.out) hb)
           replace HO315 := Aside0.mk (Kd.R_below (zr_ HO315.out) hb)
           have BK316 := Aside0.mk (hbox)
           have GW316 := Aside0.mk (zs_ hg (zw3_ HB GE284 GE285 GE303))
           have GE316 := Aside0.mk (zs_ hg (zw3_ HB GE284 GE285 GE303))
           replace HB := Aside0.mk (below_step (zw3_ HB GE284 GE285 GE303) hb)
           have NB284_316 := Aside0.mk (zn_ hg BK284)
           have NB316_284 := Aside0.mk (zm_ hg BK284)
           replace BK284 := Aside0.mk (zl_ BK284 hb)
           have NB285_316 := Aside0.mk (zn_ hg BK285)
           have NB316_285 := Aside0.mk (zm_ hg BK285)
           replace BK285 := Aside0.mk (zl_ BK285 hb)
           have NB303_316 := Aside0.mk (zn_ hg BK303)
           have NB316_303 := Aside0.mk (zm_ hg BK303)
           replace BK303 := Aside0.mk (zl_ BK303 hb)
           clear hb hbox hg
           refine hK.out _ _ ⟨(blk_cell BK285.out 0).trans rfl, (blk_cell BK285.out 1).trans rfl⟩ (fun hHeld => ?_)
           clear hK K
           refine zq_ (some 6) (h := ?_)
           exact zj_ (hJ0_3_4_7_9 (v305, .slice Ao75 y307.length co75, v311, .slice Ao74 y313.length co74, gb316) _ ⟨hHeld, (zr_ HO296.out), (zr_ HO302.out), (zr_ HO309.out), (zr_ HO315.out), (zb_ BK284), (zb_ BK285), (zb_ BK303), (zb_ BK316), GW316.out, GE316.out, NB284_316.out, NB316_284.out, NB285_316.out, NB316_285.out, NB303_316.out, NB316_303.out, (zw4_ HB GE284 GE285 GE303 GE316)⟩)
         rintro ⟨v305, v308, v311, v314, gb316⟩ w74 ⟨hS_, h0_, h1_, h2_, h3_, h4_, h5_, h6_, h7_, h8_, h9_, h10_, h11_, h12_, h13_, h14_, h15_, h16_⟩
         (try dsimp only at h0_ h1_ h2_ h3_ h4_ h5_ h6_ h7_ h8_ h9_ h10_ h11_ h12_ h13_ h14_ h15_ h16_)
         clear HO296 HO302 BK284 BK285 BK303 HB
         have HO296 := Aside0.mk h0_
         have HO302 := Aside0.mk h1_
         have HO309 := Aside0.mk h2_
         have HO315 := Aside0.mk h3_
         have BK284 := Aside0.mk h4_
         have BK285 := Aside0.mk h5_
         have BK303 := Aside0.mk h6_
         have BK316 := Aside0.mk h7_
         have GW316 := Aside0.mk h8_
         have GE316 := Aside0.mk h9_
         have NB284_316 := Aside0.mk h10_
         have NB316_284 := Aside0.mk h11_
         have NB285_316 := Aside0.mk h12_
         have NB316_285 := Aside0.mk h13_
         have NB303_316 := Aside0.mk h14_
         have NB316_303 := Aside0.mk h15_
         have HB := Aside0.mk h16_
         clear h0_ h1_ h2_ h3_ h4_ h5_ h6_ h7_ h8_ h9_ h10_ h11_ h12_ h13_ h14_ h15_ h16_
         have hHeld : w74.cell? ⟨gb285, 0, none⟩ = some (.slice A1_0 l1_0.length c1_0) ∧ w74.cell? ⟨gb285, 1, none⟩ = some (.slice A1_1 l1_1.length c1_1) := hS_
         obtain ⟨Ao75, co75, eo75⟩ := Kd.R_slice HO315.out
         (first | subst eo75 | (injection eo75 with f1_ f2_ f3_; have f4_ := f1_.symm; have f5_ := f3_.symm; clear f1_ f2_ f3_; subst f4_; subst f5_))
         obtain ⟨Ao76, co76, eo76⟩ := Kd.R_slice HO309.out
         (first | subst eo76 | (injection eo76 with f1_ f2_ f3_; have f4_ := f1_.symm; have f5_ := f3_.symm; clear f1_ f2_ f3_; subst f4_; subst f5_))
         refine zi_ (h := ?_)
         refine one_ (i := 10) (N := none) #[true, true, true, true, true, true, true, true, true, true, true] rfl rfl (one_of HT_.out (by kernel_rfl)) (by decide) (fun K hK => ?_)
         have hs77 := zx_ (v := .slice none 0 0) BK316 0
         have hfs77 := blk_frozen BK316.out 0
         have hns77_0 := NB284_316.out
         have hns77_1 := NB285_316.out
         have hns77_2 := NB303_316.out
         have hms77_0 := NB316_284.out
         have hms77_1 := NB316_285.out
         have hms77_2 := NB316_303.out
         have hs78 := zx_ (v := .slice none 0 0) BK316 1
         have hfs78 := blk_frozen BK316.out 1
         have hns78_0 := NB284_316.out
         have hns78_1 := NB285_316.out
         have hns78_2 := NB303_316.out
         have hms78_0 := NB316_284.out
         have hms78_1 := NB316_285.out
         have hms78_2 := NB316_303.out
         refine skip_ (w1 := ?_) (by rfl) rfl ?_ ?_
         rotate_left
         ·go_simp
          rfl
         refine hK.out _ _ ⟨((cell_far (p := ⟨gb316, _, none⟩) NB285_316.out _).trans (((cell_far (p := ⟨gb316, _, none⟩) NB285_316.out _).trans (hHeld.1)))), ((cell_far (p := ⟨gb316, _, none⟩) NB285_316.out _).trans (((cell_far (p := ⟨gb316, _, none⟩) NB285_316.out _).trans (hHeld.2))))⟩ (fun hHeld => ?_)
         clear hK K
         refine done_ (done_of HT_.out (by kernel_rfl)) ?_
         have hnb79 := NB303_284.out
         have hnc79 := NB284_303.out
         have hnb80 := NB303_285.out
         have hnc80 := NB285_303.out
         have hnb81 := NB303_316.out
         have hnc81 := NB316_303.out
         have hcz82_0 := zx_ (v := .slice Ao60 y294.length co60) BK303 0
         have hcz82_1 := zx_ (v := .slice Ao59 y300.length co59) BK303 1
         have hfz82_0 := blk_frozen BK303.out 0
         have hfz82_1 := blk_frozen BK303.out 1
         have hnb83 := NB316_284.out
         have hnc83 := NB284_316.out
         have hnb84 := NB316_285.out
         have hnc84 := NB285_316.out
         have hcz85_0 := zx_ (v := .slice none 0 0) BK316 0
         have hcz85_1 := zx_ (v := .slice none 0 0) BK316 1
         have hfz85_0 := blk_frozen BK316.out 0
         have hfz85_1 := blk_frozen BK316.out 1
         go_upto_if 63 with (first | ((with_reducible refine gate_callee (f := 19) rfl ?_); refine zg_ (some 52) Try.func19 #[.agg #[.slice Ao60 y294.length co60, .slice Ao59 y300.length co59], .agg #[.slice Ao76 y307.length co76, .slice Ao75 y313.length co75]] (h := ?_); (with_reducible refine (tens_Add.calls kj4 _ _ y294 _ _ y300 _ _ y307 _ _ y313 t317 t320 t323 _ ?side1 ?side2 ?side3 ?side4 ?side5 ?side6 ?side7 ?side8 A45.out).mono ?_); (case side1 => refine (Kd.R_reads' (e := 3) (base := w.heap.size) (ok := fun k_ => some k_ ≠ (.slice Ao76 y307.length co76 : Value).ownBlock) (n := y294.length) (c := co60) ?_).2.2; exact (zr_ ((Kd.R_mono (Kd.R_far (p := ⟨gb316, 1, none⟩) (Kd.R_far (p := ⟨gb316, 0, none⟩) (Kd.R_types HO296.out BK316.out (by decide)) (fun _ hk => hk.2) (.slice Ao76 y307.length co76)) (fun _ hk => hk.2) (.slice Ao75 y313.length co75)) (fun _ h_ => h_.1))))); (case side2 => exact (Kd.R_reads' HO296.out).2.1); (case side3 => refine (Kd.R_reads' (e := 23) (base := w.heap.size) (ok := fun k_ => some k_ ≠ (.slice Ao75 y313.length co75 : Value).ownBlock) (n := y300.length) (c := co59) ?_).2.2; exact (zr_ ((Kd.R_mono (Kd.R_far (p := ⟨gb316, 1, none⟩) (Kd.R_far (p := ⟨gb316, 0, none⟩) (Kd.R_types HO302.out BK316.out (by decide)) (fun _ hk => hk.2) (.slice Ao76 y307.length co76)) (fun _ hk => hk.2) (.slice Ao75 y313.length co75)) (fun _ h_ => h_.1))))); (case side4 => exact (Kd.R_reads' HO302.out).2.1); (case side5 => refine (Kd.R_reads' (e := 3) (base := w.heap.size) (ok := fun k_ => some k_ ≠ (.slice Ao60 y294.length co60 : Value).ownBlock) (n := y307.length) (c := co76) ?_).2.2; exact (zr_ ((Kd.R_mono (Kd.R_far (p := ⟨gb316, 1, none⟩) (Kd.R_far (p := ⟨gb316, 0, none⟩) (Kd.R_types HO309.out BK316.out (by decide)) (fun _ hk => hk.2) (.slice Ao76 y307.length co76)) (fun _ hk => hk.2) (.slice Ao75 y313.length co75)) (fun _ h_ => h_.1))))); (case side6 => exact (Kd.R_reads' HO309.out).2.1); (case side7 => refine (Kd.R_reads' (e := 23) (base := w.heap.size) (ok := fun k_ => some k_ ≠ (.slice Ao59 y300.length co59 : Value).ownBlock) (n := y313.length) (c := co75) ?_).2.2; exact (zr_ ((Kd.R_mono (Kd.R_far (p := ⟨gb316, 1, none⟩) (Kd.R_far (p := ⟨gb316, 0, none⟩) (Kd.R_types HO315.out BK316.out (by decide)) (fun _ hk => hk.2) (.slice Ao76 y307.length co76)) (fun _ hk => hk.2) (.slice Ao75 y313.length co75)) (fun _ h_ => h_.1))))); (case side8 => exact (Kd.R_reads' HO315.out).2.1); rintro e w86 ⟨v318, v321, rfl, ho0, ho1, hb⟩; refine ⟨_, rfl, ?_⟩; have HO319 := Aside0.mk (Kd.R_lower (Kd.R_new' (Kd.R_new' ho0 (Kd.R_lt (zr_ ((Kd.R_mono (Kd.R_far (p := ⟨gb316, 1, none⟩) (Kd.R_far (p := ⟨gb316, 0, none⟩) (Kd.R_types HO296.out BK316.out (by decide)) (fun _ hk => hk.2) (.slice Ao76 y307.length co76)) (fun _ hk => hk.2) (.slice Ao75 y313.length co75)) (fun _ h_ => h_.1)))))) (Kd.R_lt (zr_ ((Kd.R_mono (Kd.R_far (p := ⟨gb316, 1, none⟩) (Kd.R_far (p := ⟨gb316, 0, none⟩) (Kd.R_types HO309.out BK316.out (by decide)) (fun _ hk => hk.2) (.slice Ao76 y307.length co76)) (fun _ hk => hk.2) (.slice Ao75 y313.length co75)) (fun _ h_ => h_.1)))))) (below_size (zw4_ HB GE284 GE285 GE303 GE316))); replace HO296 := Aside0.mk (Kd.R_elder' (zr_ ((Kd.R_mono (Kd.R_far (p := ⟨gb316, 1, none⟩) (Kd.R_far (p := ⟨gb316, 0, none⟩) (Kd.R_types HO296.out BK316.out (by decide)) (fun _ hk => hk.2) (.slice Ao76 y307.length co76)) (fun _ hk => hk.2) (.slice Ao75 y313.length co75)) (fun _ h_ => h_.1)))) (Kd.R_base ho0) hb); replace HO309 := Aside0.mk (Kd.R_elder' (zr_ ((Kd.R_mono (Kd.R_far (p := ⟨gb316, 1, none⟩) (Kd.R_far (p := ⟨gb316, 0, none⟩) (Kd.R_types HO309.out BK316.out (by decide)) (fun _ hk => hk.2) (.slice Ao76 y307.length co76)) (fun _ hk => hk.2) (.slice Ao75 y313.length co75)) (fun _ h_ => h_.1)))) (Kd.R_base ho0) hb); have HO322 := Aside0.mk (Kd.R_lower (Kd.R_new' (Kd.R_new' ho1 (Kd.R_lt (zr_ ((Kd.R_mono (Kd.R_far (p := ⟨gb316, 1, none⟩) (Kd.R_far (p := ⟨gb316, 0, none⟩) (Kd.R_types HO302.out BK316.out (by decide)) (fun _ hk => hk.2) (.slice Ao76 y307.length co76)) (fun _ hk => hk.2) (.slice Ao75 y313.length co75)) (fun _ h_ => h_.1)))))) (Kd.R_lt (zr_ ((Kd.R_mono (Kd.R_far (p := ⟨gb316, 1, none⟩) (Kd.R_far (p := ⟨gb316, 0, none⟩) (Kd.R_types HO315.out BK316.out (by decide)) (fun _ hk => hk.2) (.slice Ao76 y307.length co76)) (fun _ hk => hk.2) (.slice Ao75 y313.length co75)) (fun _ h_ => h_.1)))))) (below_size (zw4_ HB GE284 GE285 GE303 GE316))); replace HO302 := Aside0.mk (Kd.R_elder' (zr_ ((Kd.R_mono (Kd.R_far (p := ⟨gb316, 1, none⟩) (Kd.R_far (p := ⟨gb316, 0, none⟩) (Kd.R_types HO302.out BK316.out (by decide)) (fun _ hk => hk.2) (.slice Ao76 y307.length co76)) (fun _ hk => hk.2) (.slice Ao75 y313.length co75)) (fun _ h_ => h_.1)))) (Kd.R_base ho1) hb); replace HO315 := Aside0.mk (Kd.R_elder' (zr_ ((Kd.R_mono (Kd.R_far (p := ⟨gb316, 1, none⟩) (Kd.R_far (p := ⟨gb316, 0, none⟩) (Kd.R_types HO315.out BK316.out (by decide)) (fun _ hk => hk.2) (.slice Ao76 y307.length co76)) (fun _ hk => hk.2) (.slice Ao75 y313.length co75)) (fun _ h_ => h_.1)))) (Kd.R_base ho1) hb); replace BK284 := Aside0.mk (blk_below (g := gb284) (o := .cells #[.slice A0_0 l0_0.length c0_0, .slice A0_1 l0_1.length c0_1] 27 (0, 0)) (by (with_reducible repeat (first | refine blk_drewN ?_ _ | refine blk_drew ?_ | refine blk_alloc ?_ _)); refine blk_far ?_ NB284_316.out _; (with_reducible repeat (first | refine blk_drewN ?_ _ | refine blk_drew ?_ | refine blk_alloc ?_ _)); refine blk_far ?_ NB284_316.out _; (with_reducible repeat (first | refine blk_drewN ?_ _ | refine blk_drew ?_ | refine blk_alloc ?_ _)); exact BK284.out) hb); replace BK285 := Aside0.mk (blk_below (g := gb285) (o := .cells #[.slice A1_0 l1_0.length c1_0, .slice A1_1 l1_1.length c1_1] 27 (0, 0)) (by (with_reducible repeat (first | refine blk_drewN ?_ _ | refine blk_drew ?_ | refine blk_alloc ?_ _)); refine blk_far ?_ NB285_316.out _; (with_reducible repeat (first | refine blk_drewN ?_ _ | refine blk_drew ?_ | refine blk_alloc ?_ _)); refine blk_far ?_ NB285_316.out _; (with_reducible repeat (first | refine blk_drewN ?_ _ | refine blk_drew ?_ | refine blk_alloc ?_ _)); exact BK285.out) hb); replace BK303 := Aside0.mk (blk_below (g := gb303) (o := .cells #[.slice Ao60 y294.length co60, .slice Ao59 y300.length co59] 27 (0, 0)) (by (with_reducible repeat (first | refine blk_drewN ?_ _ | refine blk_drew ?_ | refine blk_alloc ?_ _)); refine blk_far ?_ NB303_316.out _; (with_reducible repeat (first | refine blk_drewN ?_ _ | refine blk_drew ?_ | refine blk_alloc ?_ _)); refine blk_far ?_ NB303_316.out _; (with_reducible repeat (first | refine blk_drewN ?_ _ | refine blk_drew ?_ | refine blk_alloc ?_ _)); exact BK303.out) hb); replace BK316 := Aside0.mk (blk_below (g := gb316) (o := .cells #[.slice Ao76 y307.length co76, .slice Ao75 y313.length co75] 27 (0, 0)) (by (with_reducible repeat (first | refine blk_drewN ?_ _ | refine blk_drew ?_ | refine blk_alloc ?_ _)); refine blk_put (cs := #[.slice Ao76 y307.length co76, .slice none 0 0]) ?_ 1 _ rfl; (with_reducible repeat (first | refine blk_drewN ?_ _ | refine blk_drew ?_ | refine blk_alloc ?_ _)); refine blk_put (cs := #[.slice none 0 0, .slice none 0 0]) ?_ 0 _ rfl; (with_reducible repeat (first | refine blk_drewN ?_ _ | refine blk_drew ?_ | refine blk_alloc ?_ _)); exact BK316.out) hb); replace HB := Aside0.mk (below_step (zw4_ HB GE284 GE285 GE303 GE316) hb); (try clear hb); (try clear hk); (try clear ho0); (try clear ho1)) | ((with_reducible refine gate_dst (N := 7) rfl ?_); refine box_event ?hg (N := 7) ?hd (cs := #[.slice none 0 0, .slice none 0 0]) (t := 27) ?hr ?_; (case hd => rfl); (case hg => rfl); (case hr => first | (go_simp; done) | (go_simp; rfl)); intro gb324 hg w87 hbox hb; replace HO296 := Aside0.mk (Kd.R_below (zr_ HO296.out) hb); replace HO302 := Aside0.mk (Kd.R_below (zr_ HO302.out) hb); replace HO309 := Aside0.mk (Kd.R_below (zr_ HO309.out) hb); replace HO315 := Aside0.mk (Kd.R_below (zr_ HO315.out) hb); replace HO319 := Aside0.mk (Kd.R_below (zr_ HO319.out) hb); replace HO322 := Aside0.mk (Kd.R_below (zr_ HO322.out) hb); have BK324 := Aside0.mk (hbox); have GW324 := Aside0.mk (zs_ hg (zw4_ HB GE284 GE285 GE303 GE316)); have GE324 := Aside0.mk (zs_ hg (zw4_ HB GE284 GE285 GE303 GE316)); replace HB := Aside0.mk (below_step (zw4_ HB GE284 GE285 GE303 GE316) hb); have NB284_324 := Aside0.mk (zn_ hg BK284); have NB324_284 := Aside0.mk (zm_ hg BK284); replace BK284 := Aside0.mk (zl_ BK284 hb); have NB285_324 := Aside0.mk (zn_ hg BK285); have NB324_285 := Aside0.mk (zm_ hg BK285); replace BK285 := Aside0.mk (zl_ BK285 hb); have NB303_324 := Aside0.mk (zn_ hg BK303); have NB324_303 := Aside0.mk (zm_ hg BK303); replace BK303 := Aside0.mk (zl_ BK303 hb); have NB316_324 := Aside0.mk (zn_ hg BK316); have NB324_316 := Aside0.mk (zm_ hg BK316); replace BK316 := Aside0.mk (zl_ BK316 hb); clear hb hbox hg; obtain ⟨Ao88, co88, eo88⟩ := Kd.R_slice HO319.out; subst eo88; have hnb89 := NB324_284.out; have hnc89 := NB284_324.out; have hnb90 := NB324_285.out; have hnc90 := NB285_324.out; have hnb91 := NB324_303.out; have hnc91 := NB303_324.out; have hnb92 := NB324_316.out; have hnc92 := NB316_324.out; have hcz93_0 := zx_ (v := .slice none 0 0) BK324 0; have hcz93_1 := zx_ (v := .slice none 0 0) BK324 1; have hfz93_0 := blk_frozen BK324.out 0; have hfz93_1 := blk_frozen BK324.out 1; obtain ⟨Ao94, co94, eo94⟩ := Kd.R_slice HO322.out; subst eo94; have hcz95_0 := zx_ (v := .slice Ao60 y294.length co60) BK303 0; have hcz95_1 := zx_ (v := .slice Ao59 y300.length co59) BK303 1; have hfz95_0 := blk_frozen BK303.out 0; have hfz95_1 := blk_frozen BK303.out 1) | ((with_reducible refine gate_callee (f := 20) rfl ?_); refine zg_ (some 59) Try.func20 #[.agg #[.slice Ao60 y294.length co60, .slice Ao59 y300.length co59], .slice Ao60 y294.length co60] (h := ?_); (with_reducible refine (tens_Reshape.calls kj4 _ _ y294 _ _ y300 _ _ y294 t325 t328 t331 _ ?side1 ?side2 ?side3 ?side4 ?side5 ?side6 A46.out).mono ?_); (case side1 => refine (Kd.R_reads' (e := 3) (base := w.heap.size) (ok := fun k_ => (some k_ ≠ (.slice Ao76 y307.length co76 : Value).ownBlock ∧ some k_ ≠ (.slice Ao88 t317.length co88 : Value).ownBlock)) (n := y294.length) (c := co60) ?_).2.2; exact (zr_ ((Kd.R_mono (Kd.R_far (p := ⟨gb324, 1, none⟩) (Kd.R_far (p := ⟨gb324, 0, none⟩) (Kd.R_types HO296.out BK324.out (by decide)) (fun _ hk => hk.2) (.slice Ao88 t317.length co88)) (fun _ hk => hk.2) (.slice Ao94 t320.length co94)) (fun _ h_ => h_.1))))); (case side2 => exact (Kd.R_reads' HO296.out).2.1); (case side3 => refine (Kd.R_reads' (e := 23) (base := w.heap.size) (ok := fun k_ => (some k_ ≠ (.slice Ao75 y313.length co75 : Value).ownBlock ∧ some k_ ≠ (.slice Ao94 t320.length co94 : Value).ownBlock)) (n := y300.length) (c := co59) ?_).2.2; exact (zr_ ((Kd.R_mono (Kd.R_far (p := ⟨gb324, 1, none⟩) (Kd.R_far (p := ⟨gb324, 0, none⟩) (Kd.R_types HO302.out BK324.out (by decide)) (fun _ hk => hk.2) (.slice Ao88 t317.length co88)) (fun _ hk => hk.2) (.slice Ao94 t320.length co94)) (fun _ h_ => h_.1))))); (case side4 => exact (Kd.R_reads' HO302.out).2.1); (case side5 => refine (Kd.R_reads' (e := 3) (base := w.heap.size) (ok := fun k_ => (some k_ ≠ (.slice Ao76 y307.length co76 : Value).ownBlock ∧ some k_ ≠ (.slice Ao88 t317.length co88 : Value).ownBlock)) (n := y294.length) (c := co60) ?_).2.2; exact (zr_ ((Kd.R_mono (Kd.R_far (p := ⟨gb324, 1, none⟩) (Kd.R_far (p := ⟨gb324, 0, none⟩) (Kd.R_types HO296.out BK324.out (by decide)) (fun _ hk => hk.2) (.slice Ao88 t317.length co88)) (fun _ hk => hk.2) (.slice Ao94 t320.length co94)) (fun _ h_ => h_.1))))); (case side6 => exact (Kd.R_reads' HO296.out).2.1); rintro e w96 ⟨v326, v329, rfl, ho0, ho1, hb⟩; refine ⟨_, rfl, ?_⟩; have HO327 := Aside0.mk (Kd.R_lower (Kd.R_new' (Kd.R_new' (Kd.R_new' ho0 (Kd.R_lt (zr_ ((Kd.R_mono (Kd.R_far (p := ⟨gb324, 1, none⟩) (Kd.R_far (p := ⟨gb324, 0, none⟩) (Kd.R_types HO296.out BK324.out (by decide)) (fun _ hk => hk.2) (.slice Ao88 t317.length co88)) (fun _ hk => hk.2) (.slice Ao94 t320.length co94)) (fun _ h_ => h_.1)))))) (Kd.R_lt (zr_ ((Kd.R_mono (Kd.R_far (p := ⟨gb324, 1, none⟩) (Kd.R_far (p := ⟨gb324, 0, none⟩) (Kd.R_types HO309.out BK324.out (by decide)) (fun _ hk => hk.2) (.slice Ao88 t317.length co88)) (fun _ hk => hk.2) (.slice Ao94 t320.length co94)) (fun _ h_ => h_.1)))))) (Kd.R_lt (zr_ ((Kd.R_mono (Kd.R_far (p := ⟨gb324, 1, none⟩) (Kd.R_far (p := ⟨gb324, 0, none⟩) (Kd.R_types HO319.out BK324.out (by decide)) (fun _ hk => hk.2) (.slice Ao88 t317.length co88)) (fun _ hk => hk.2) (.slice Ao94 t320.length co94)) (fun _ h_ => h_.1)))))) (below_size (zw5_ HB GE284 GE285 GE303 GE316 GE324))); replace HO296 := Aside0.mk (Kd.R_elder' (zr_ ((Kd.R_mono (Kd.R_far (p := ⟨gb324, 1, none⟩) (Kd.R_far (p := ⟨gb324, 0, none⟩) (Kd.R_types HO296.out BK324.out (by decide)) (fun _ hk => hk.2) (.slice Ao88 t317.length co88)) (fun _ hk => hk.2) (.slice Ao94 t320.length co94)) (fun _ h_ => h_.1)))) (Kd.R_base ho0) hb); replace HO309 := Aside0.mk (Kd.R_elder' (zr_ ((Kd.R_mono (Kd.R_far (p := ⟨gb324, 1, none⟩) (Kd.R_far (p := ⟨gb324, 0, none⟩) (Kd.R_types HO309.out BK324.out (by decide)) (fun _ hk => hk.2) (.slice Ao88 t317.length co88)) (fun _ hk => hk.2) (.slice Ao94 t320.length co94)) (fun _ h_ => h_.1)))) (Kd.R_base ho0) hb); replace HO319 := Aside0.mk (Kd.R_elder' (zr_ ((Kd.R_mono (Kd.R_far (p := ⟨gb324, 1, none⟩) (Kd.R_far (p := ⟨gb324, 0, none⟩) (Kd.R_types HO319.out BK324.out (by decide)) (fun _ hk => hk.2) (.slice Ao88 t317.length co88)) (fun _ hk => hk.2) (.slice Ao94 t320.length co94)) (fun _ h_ => h_.1)))) (Kd.R_base ho0) hb); have HO330 := Aside0.mk (Kd.R_lower (Kd.R_new' (Kd.R_new' (Kd.R_new' ho1 (Kd.R_lt (zr_ ((Kd.R_mono (Kd.R_far (p := ⟨gb324, 1, none⟩) (Kd.R_far (p := ⟨gb324, 0, none⟩) (Kd.R_types HO302.out BK324.out (by decide)) (fun _ hk => hk.2) (.slice Ao88 t317.length co88)) (fun _ hk => hk.2) (.slice Ao94 t320.length co94)) (fun _ h_ => h_.1)))))) (Kd.R_lt (zr_ ((Kd.R_mono (Kd.R_far (p := ⟨gb324, 1, none⟩) (Kd.R_far (p := ⟨gb324, 0, none⟩) (Kd.R_types HO315.out BK324.out (by decide)) (fun _ hk => hk.2) (.slice Ao88 t317.length co88)) (fun _ hk => hk.2) (.slice Ao94 t320.length co94)) (fun _ h_ => h_.1)))))) (Kd.R_lt (zr_ ((Kd.R_mono (Kd.R_far (p := ⟨gb324, 1, none⟩) (Kd.R_far (p := ⟨gb324, 0, none⟩) (Kd.R_types HO322.out BK324.out (by decide)) (fun _ hk => hk.2) (.slice Ao88 t317.length co88)) (fun _ hk => hk.2) (.slice Ao94 t320.length co94)) (fun _ h_ => h_.1)))))) (below_size (zw5_ HB GE284 GE285 GE303 GE316 GE324))); replace HO302 := Aside0.mk (Kd.R_elder' (zr_ ((Kd.R_mono (Kd.R_far (p := ⟨gb324, 1, none⟩) (Kd.R_far (p := ⟨gb324, 0, none⟩) (Kd.R_types HO302.out BK324.out (by decide)) (fun _ hk => hk.2) (.slice Ao88 t317.length co88)) (fun _ hk => hk.2) (.slice Ao94 t320.length co94)) (fun _ h_ => h_.1)))) (Kd.R_base ho1) hb); replace HO315 := Aside0.mk (Kd.R_elder' (zr_ ((Kd.R_mono (Kd.R_far (p := ⟨gb324, 1, none⟩) (Kd.R_far (p := ⟨gb324, 0, none⟩) (Kd.R_types HO315.out BK324.out (by decide)) (fun _ hk => hk.2) (.slice Ao88 t317.length co88)) (fun _ hk => hk.2) (.slice Ao94 t320.length co94)) (fun _ h_ => h_.1)))) (Kd.R_base ho1) hb); replace HO322 := Aside0.mk (Kd.R_elder' (zr_ ((Kd.R_mono (Kd.R_far (p := ⟨gb324, 1, none⟩) (Kd.R_far (p := ⟨gb324, 0, none⟩) (Kd.R_types HO322.out BK324.out (by decide)) (fun _ hk => hk.2) (.slice Ao88 t317.length co88)) (fun _ hk => hk.2) (.slice Ao94 t320.length co94)) (fun _ h_ => h_.1)))) (Kd.R_base ho1) hb); replace BK284 := Aside0.mk (blk_below (g := gb284) (o := .cells #[.slice A0_0 l0_0.length c0_0, .slice A0_1 l0_1.length c0_1] 27 (0, 0)) (by (with_reducible repeat (first | refine blk_drewN ?_ _ | refine blk_drew ?_ | refine blk_alloc ?_ _)); refine blk_far ?_ NB284_324.out _; (with_reducible repeat (first | refine blk_drewN ?_ _ | refine blk_drew ?_ | refine blk_alloc ?_ _)); refine blk_far ?_ NB284_324.out _; (with_reducible repeat (first | refine blk_drewN ?_ _ | refine blk_drew ?_ | refine blk_alloc ?_ _)); exact BK284.out) hb); replace BK285 := Aside0.mk (blk_below (g := gb285) (o := .cells #[.slice A1_0 l1_0.length c1_0, .slice A1_1 l1_1.length c1_1] 27 (0, 0)) (by (with_reducible repeat (first | refine blk_drewN ?_ _ | refine blk_drew ?_ | refine blk_alloc ?_ _)); refine blk_far ?_ NB285_324.out _; (with_reducible repeat (first | refine blk_drewN ?_ _ | refine blk_drew ?_ | refine blk_alloc ?_ _)); refine blk_far ?_ NB285_324.out _; (with_reducible repeat (first | refine blk_drewN ?_ _ | refine blk_drew ?_ | refine blk_alloc ?_ _)); exact BK285.out) hb); replace BK303 := Aside0.mk (blk_below (g := gb303) (o := .cells #[.slice Ao60 y294.length co60, .slice Ao59 y300.length co59] 27 (0, 0)) (by (with_reducible repeat (first | refine blk_drewN ?_ _ | refine blk_drew ?_ | refine blk_alloc ?_ _)); refine blk_far ?_ NB303_324.out _; (with_reducible repeat (first | refine blk_drewN ?_ _ | refine blk_drew ?_ | refine blk_alloc ?_ _)); refine blk_far ?_ NB303_324.out _; (with_reducible repeat (first | refine blk_drewN ?_ _ | refine blk_drew ?_ | refine blk_alloc ?_ _)); exact BK303.out) hb); replace BK316 := Aside0.mk (blk_below (g := gb316) (o := .cells #[.slice Ao76 y307.length co76, .slice Ao75 y313.length co75] 27 (0, 0)) (by (with_reducible repeat (first | refine blk_drewN ?_ _ | refine blk_drew ?_ | refine blk_alloc ?_ _)); refine blk_far ?_ NB316_324.out _; (with_reducible repeat (first | refine blk_drewN ?_ _ | refine blk_drew ?_ | refine blk_alloc ?_ _)); refine blk_far ?_ NB316_324.out _; (with_reducible repeat (first | refine blk_drewN ?_ _ | refine blk_drew ?_ | refine blk_alloc ?_ _)); exact BK316.out) hb); replace BK324 := Aside0.mk (blk_below (g := gb324) (o := .cells #[.slice Ao88 t317.length co88, .slice Ao94 t320.length co94] 27 (0, 0)) (by (with_reducible repeat (first | refine blk_drewN ?_ _ | refine blk_drew ?_ | refine blk_alloc ?_ _)); refine blk_put (cs := #[.slice Ao88 t317.length co88, .slice none 0 0]) ?_ 1 _ rfl; (with_reducible repeat (first | refine blk_drewN ?_ _ | refine blk_drew ?_ | refine blk_alloc ?_ _)); refine blk_put (cs := #[.slice none 0 0, .slice none 0 0]) ?_ 0 _ rfl; (with_reducible repeat (first | refine blk_drewN ?_ _ | refine blk_drew ?_ | refine blk_alloc ?_ _)); exact BK324.out) hb); replace HB := Aside0.mk (below_step (zw5_ HB GE284 GE285 GE303 GE316 GE324) hb); (try clear hb); (try clear hk); (try clear ho0); (try clear ho1)) | ((with_reducible refine gate_dst (N := 9) rfl ?_); refine box_event ?hg (N := 9) ?hd (cs := #[.slice none 0 0, .slice none 0 0]) (t := 27) ?hr ?_; (case hd => rfl); (case hg => rfl); (case hr => first | (go_simp; done) | (go_simp; rfl)); intro gb332 hg w97 hbox hb; replace HO296 := Aside0.mk (Kd.R_below (zr_ HO296.out) hb); replace HO302 := Aside0.mk (Kd.R_below (zr_ HO302.out) hb); replace HO309 := Aside0.mk (Kd.R_below (zr_ HO309.out) hb); replace HO315 := Aside0.mk (Kd.R_below (zr_ HO315.out) hb); replace HO319 := Aside0.mk (Kd.R_below (zr_ HO319.out) hb); replace HO322 := Aside0.mk (Kd.R_below (zr_ HO322.out) hb); replace HO327 := Aside0.mk (Kd.R_below (zr_ HO327.out) hb); replace HO330 := Aside0.mk (Kd.R_below (zr_ HO330.out) hb); have BK332 := Aside0.mk (hbox); have GW332 := Aside0.mk (zs_ hg (zw5_ HB GE284 GE285 GE303 GE316 GE324)); have GE332 := Aside0.mk (zs_ hg (zw5_ HB GE284 GE285 GE303 GE316 GE324)); replace HB := Aside0.mk (below_step (zw5_ HB GE284 GE285 GE303 GE316 GE324) hb); have NB284_332 := Aside0.mk (zn_ hg BK284); have NB332_284 := Aside0.mk (zm_ hg BK284); replace BK284 := Aside0.mk (zl_ BK284 hb); have NB285_332 := Aside0.mk (zn_ hg BK285); have NB332_285 := Aside0.mk (zm_ hg BK285); replace BK285 := Aside0.mk (zl_ BK285 hb); have NB303_332 := Aside0.mk (zn_ hg BK303); have NB332_303 := Aside0.mk (zm_ hg BK303); replace BK303 := Aside0.mk (zl_ BK303 hb); have NB316_332 := Aside0.mk (zn_ hg BK316); have NB332_316 := Aside0.mk (zm_ hg BK316); replace BK316 := Aside0.mk (zl_ BK316 hb); have NB324_332 := Aside0.mk (zn_ hg BK324); have NB332_324 := Aside0.mk (zm_ hg BK324); replace BK324 := Aside0.mk (zl_ BK324 hb); clear hb hbox hg; obtain ⟨Ao98, co98, eo98⟩ := Kd.R_slice HO327.out; subst eo98; have hnb99 := NB332_284.out; have hnc99 := NB284_332.out; have hnb100 := NB332_285.out; have hnc100 := NB285_332.out; have hnb101 := NB332_303.out; have hnc101 := NB303_332.out; have hnb102 := NB332_316.out; have hnc102 := NB316_332.out; have hnb103 := NB332_324.out; have hnc103 := NB324_332.out; have hcz104_0 := zx_ (v := .slice none 0 0) BK332 0; have hcz104_1 := zx_ (v := .slice none 0 0) BK332 1; have hfz104_0 := blk_frozen BK332.out 0; have hfz104_1 := blk_frozen BK332.out 1; obtain ⟨Ao105, co105, eo105⟩ := Kd.R_slice HO330.out; subst eo105))
         (try simp only [Act.put, List.setIfInBounds_toArray, List.set_cons_zero, List.set_cons_succ])
         go_cut [] (fun wc => ∃ (kq : Nat) (x304001_46 : List Int) (x317001_46 : List Int) (x325001_46 : List Int) (x333001_46 : List Int) (u304001 : Value) (u317001 : Value) (u325001 : Value) (u333001 : Value), Aside0 (carousellaw6_TensKeeps.j2 kq l0_0 l0_1 l1_0 l1_1 y294 x304001_46 y307 x317001_46 t325 x333001_46 = some r) ∧ Aside0 (kq ≤ kj4) ∧ Aside0 (Kd.R (Kd.int .i64) 3 wc w.heap.size (fun k_ => some k_ ≠ ((.slice Ao76 y307.length co76) : Value).ownBlock ∧ some k_ ≠ ((.slice Ao88 t317.length co88) : Value).ownBlock ∧ some k_ ≠ ((.slice Ao98 t325.length co98) : Value).ownBlock) (.slice Ao60 y294.length co60) y294) ∧ Aside0 (Kd.R (Kd.int .i64) 23 wc w.heap.size (fun k_ => some k_ ≠ (u317001 : Value).ownBlock ∧ some k_ ≠ (u325001 : Value).ownBlock ∧ some k_ ≠ (u333001 : Value).ownBlock) u304001 x304001_46) ∧ Aside0 (Kd.R (Kd.int .i64) 3 wc w.heap.size (fun k_ => some k_ ≠ ((.slice Ao60 y294.length co60) : Value).ownBlock ∧ some k_ ≠ ((.slice Ao88 t317.length co88) : Value).ownBlock ∧ some k_ ≠ ((.slice Ao98 t325.length co98) : Value).ownBlock) (.slice Ao76 y307.length co76) y307) ∧ Aside0 (Kd.R (Kd.int .i64) 23 wc w.heap.size (fun k_ => some k_ ≠ (u304001 : Value).ownBlock ∧ some k_ ≠ (u325001 : Value).ownBlock ∧ some k_ ≠ (u333001 : Value).ownBlock) u317001 x317001_46) ∧ Aside0 (Kd.R (Kd.int .i64) 3 wc w.heap.size (fun k_ => some k_ ≠ ((.slice Ao60 y294.length co60) : Value).ownBlock ∧ some k_ ≠ ((.slice Ao76 y307.length co76) : Value).ownBlock ∧ some k_ ≠ ((.slice Ao98 t325.length co98) : Value).ownBlock) (.slice Ao88 t317.length co88) t317) ∧ Aside0 (Kd.R (Kd.int .i64) 23 wc w.heap.size (fun k_ => some k_ ≠ (u304001 : Value).ownBlock ∧ some k_ ≠ (u317001 : Value).ownBlock ∧ some k_ ≠ (u333001 : Value).ownBlock) u325001 x325001_46) ∧ Aside0 (Kd.R (Kd.int .i64) 3 wc w.heap.size (fun k_ => some k_ ≠ ((.slice Ao60 y294.length co60) : Value).ownBlock ∧ some k_ ≠ ((.slice Ao76 y307.length co76) : Value).ownBlock ∧ some k_ ≠ ((.slice Ao88 t317.length co88) : Value).ownBlock) (.slice Ao98 t325.length co98) t325) ∧ Aside0 (Kd.R (Kd.int .i64) 23 wc w.heap.size (fun k_ => some k_ ≠ (u304001 : Value).ownBlock ∧ some k_ ≠ (u317001 : Value).ownBlock ∧ some k_ ≠ (u325001 : Value).ownBlock) u333001 x333001_46) ∧ Aside0 (wc.heap[gb284]? = some (.cells #[(.slice A0_0 l0_0.length c0_0), (.slice A0_1 l0_1.length c0_1)] 27 (0, 0))) ∧ Aside0 (wc.heap[gb285]? = some (.cells #[(.slice A1_0 l1_0.length c1_0), (.slice A1_1 l1_1.length c1_1)] 27 (0, 0))) ∧ Aside0 (wc.heap[gb303]? = some (.cells #[(.slice Ao60 y294.length co60), u304001] 27 (0, 0))) ∧ Aside0 (wc.heap[gb316]? = some (.cells #[(.slice Ao76 y307.length co76), u317001] 27 (0, 0))) ∧ Aside0 (wc.heap[gb324]? = some (.cells #[(.slice Ao88 t317.length co88), u325001] 27 (0, 0))) ∧ Aside0 (wc.heap[gb332]? = some (.cells #[(.slice Ao98 t325.length co98), u333001] 27 (0, 0))) ∧ Aside0 (Below w.heap.size w wc))
         case first =>
          have H := HC47.out
          clear HC47
          by_cases c106 : t323 = 0
          ·rw [if_pos c106] at H
           have c106b0 : (t323 == 0) = true := beq_iff_eq.mpr c106
           have c106b1 : (t323 != 0) = false := bne_eq_false_iff_eq.mpr c106
           clear c106
           (first | rw [c106b0] | (simp only [i64_w, i32_w]; rw [c106b0]) | skip)
           have H' := Aside0.mk H
           clear H
           go_wp2
           go_loopg [11] kj4 (fun kq v11 w' => ∃ (x11_2 : Int) (x304001_2 : List Int) (x317001_2 : List Int) (x325001_2 : List Int) (x333001_2 : List Int) (u304001 : Value) (u317001 : Value) (u325001 : Value) (u333001 : Value), v11 = .int .i64 x11_2 ∧ Aside0 (carousellaw6_TensKeeps.l0 kq x11_2 l0_0 l0_1 l1_0 l1_1 y294 x304001_2 y307 x317001_2 t317 x325001_2 t325 x333001_2 = some r) ∧ Aside0 (kq ≤ kj4) ∧ Aside0 (Kd.R (Kd.int .i64) 3 w' w.heap.size (fun k_ => some k_ ≠ ((.slice Ao76 y307.length co76) : Value).ownBlock ∧ some k_ ≠ ((.slice Ao88 t317.length co88) : Value).ownBlock ∧ some k_ ≠ ((.slice Ao98 t325.length co98) : Value).ownBlock) (.slice Ao60 y294.length co60) y294) ∧ Aside0 (Kd.R (Kd.int .i64) 23 w' w.heap.size (fun k_ => some k_ ≠ (u317001 : Value).ownBlock ∧ some k_ ≠ (u325001 : Value).ownBlock ∧ some k_ ≠ (u333001 : Value).ownBlock) u304001 x304001_2) ∧ Aside0 (Kd.R (Kd.int .i64) 3 w' w.heap.size (fun k_ => some k_ ≠ ((.slice Ao60 y294.length co60) : Value).ownBlock ∧ some k_ ≠ ((.slice Ao88 t317.length co88) : Value).ownBlock ∧ some k_ ≠ ((.slice Ao98 t325.length co98) : Value).ownBlock) (.slice Ao76 y307.length co76) y307) ∧ Aside0 (Kd.R (Kd.int .i64) 23 w' w.heap.size (fun k_ => some k_ ≠ (u304001 : Value).ownBlock ∧ some k_ ≠ (u325001 : Value).ownBlock ∧ some k_ ≠ (u333001 : Value).ownBlock) u317001 x317001_2) ∧ Aside0 (Kd.R (Kd.int .i64) 3 w' w.heap.size (fun k_ => some k_ ≠ ((.slice Ao60 y294.length co60) : Value).ownBlock ∧ some k_ ≠ ((.slice Ao76 y307.length co76) : Value).ownBlock ∧ some k_ ≠ ((.slice Ao98 t325.length co98) : Value).ownBlock) (.slice Ao88 t317.length co88) t317) ∧ Aside0 (Kd.R (Kd.int .i64) 23 w' w.heap.size (fun k_ => some k_ ≠ (u304001 : Value).ownBlock ∧ some k_ ≠ (u317001 : Value).ownBlock ∧ some k_ ≠ (u333001 : Value).ownBlock) u325001 x325001_2) ∧ Aside0 (Kd.R (Kd.int .i64) 3 w' w.heap.size (fun k_ => some k_ ≠ ((.slice Ao60 y294.length co60) : Value).ownBlock ∧ some k_ ≠ ((.slice Ao76 y307.length co76) : Value).ownBlock ∧ some k_ ≠ ((.slice Ao88 t317.length co88) : Value).ownBlock) (.slice Ao98 t325.length co98) t325) ∧ Aside0 (Kd.R (Kd.int .i64) 23 w' w.heap.size (fun k_ => some k_ ≠ (u304001 : Value).ownBlock ∧ some k_ ≠ (u317001 : Value).ownBlock ∧ some k_ ≠ (u325001 : Value).ownBlock) u333001 x333001_2) ∧ Aside0 (w'.heap[gb284]? = some (.cells #[(.slice A0_0 l0_0.length c0_0), (.slice A0_1 l0_1.length c0_1)] 27 (0, 0))) ∧ Aside0 (w'.heap[gb285]? = some (.cells #[(.slice A1_0 l1_0.length c1_0), (.slice A1_1 l1_1.length c1_1)] 27 (0, 0))) ∧ Aside0 (w'.heap[gb303]? = some (.cells #[(.slice Ao60 y294.length co60), u304001] 27 (0, 0))) ∧ Aside0 (w'.heap[gb316]? = some (.cells #[(.slice Ao76 y307.length co76), u317001] 27 (0, 0))) ∧ Aside0 (w'.heap[gb324]? = some (.cells #[(.slice Ao88 t317.length co88), u325001] 27 (0, 0))) ∧ Aside0 (w'.heap[gb332]? = some (.cells #[(.slice Ao98 t325.length co98), u333001] 27 (0, 0))) ∧ Aside0 (Below w.heap.size w w'))
           case atStart => exact ⟨(0), (y300), (y313), (t320), (t328), (.slice Ao59 y300.length co59), (.slice Ao75 y313.length co75), (.slice Ao94 t320.length co94), (.slice Ao105 t328.length co105), (by first | rfl | (simp; done) | (simp [*]; done)), H', ⟨Nat.le_refl _⟩, ⟨zr_ (Kd.R_mono (Kd.R_far (p := ⟨gb332, 1, none⟩) (Kd.R_far (p := ⟨gb332, 0, none⟩) (Kd.R_types HO296.out BK332.out (by decide)) (fun _ hk => hk.2) (.slice Ao98 t325.length co98)) (fun _ hk => hk.2) (.slice Ao105 t328.length co105)) (fun _ hk => ⟨hk.1.1.1, ⟨hk.1.1.2, hk.1.2⟩⟩))⟩, ⟨zr_ (Kd.R_mono (Kd.R_far (p := ⟨gb332, 1, none⟩) (Kd.R_far (p := ⟨gb332, 0, none⟩) (Kd.R_types HO302.out BK332.out (by decide)) (fun _ hk => hk.2) (.slice Ao98 t325.length co98)) (fun _ hk => hk.2) (.slice Ao105 t328.length co105)) (fun _ hk => ⟨hk.1.1.1, ⟨hk.1.1.2, hk.1.2⟩⟩))⟩, ⟨zr_ (Kd.R_mono (Kd.R_far (p := ⟨gb332, 1, none⟩) (Kd.R_far (p := ⟨gb332, 0, none⟩) (Kd.R_types HO309.out BK332.out (by decide)) (fun _ hk => hk.2) (.slice Ao98 t325.length co98)) (fun _ hk => hk.2) (.slice Ao105 t328.length co105)) (fun _ hk => ⟨hk.1.1.1, ⟨hk.1.1.2, hk.1.2⟩⟩))⟩, ⟨zr_ (Kd.R_mono (Kd.R_far (p := ⟨gb332, 1, none⟩) (Kd.R_far (p := ⟨gb332, 0, none⟩) (Kd.R_types HO315.out BK332.out (by decide)) (fun _ hk => hk.2) (.slice Ao98 t325.length co98)) (fun _ hk => hk.2) (.slice Ao105 t328.length co105)) (fun _ hk => ⟨hk.1.1.1, ⟨hk.1.1.2, hk.1.2⟩⟩))⟩, ⟨zr_ (Kd.R_mono (Kd.R_far (p := ⟨gb332, 1, none⟩) (Kd.R_far (p := ⟨gb332, 0, none⟩) (Kd.R_types HO319.out BK332.out (by decide)) (fun _ hk => hk.2) (.slice Ao98 t325.length co98)) (fun _ hk => hk.2) (.slice Ao105 t328.length co105)) (fun _ hk => ⟨hk.1.1.1.2, ⟨hk.1.1.2, hk.1.2⟩⟩))⟩, ⟨zr_ (Kd.R_mono (Kd.R_far (p := ⟨gb332, 1, none⟩) (Kd.R_far (p := ⟨gb332, 0, none⟩) (Kd.R_types HO322.out BK332.out (by decide)) (fun _ hk => hk.2) (.slice Ao98 t325.length co98)) (fun _ hk => hk.2) (.slice Ao105 t328.length co105)) (fun _ hk => ⟨hk.1.1.1.2, ⟨hk.1.1.2, hk.1.2⟩⟩))⟩, ⟨zr_ (Kd.R_mono (Kd.R_far (p := ⟨gb332, 1, none⟩) (Kd.R_far (p := ⟨gb332, 0, none⟩) (Kd.R_types HO327.out BK332.out (by decide)) (fun _ hk => hk.2) (.slice Ao98 t325.length co98)) (fun _ hk => hk.2) (.slice Ao105 t328.length co105)) (fun _ hk => ⟨hk.1.1.1.2, ⟨hk.1.1.2, hk.1.2⟩⟩))⟩, ⟨zr_ (Kd.R_mono (Kd.R_far (p := ⟨gb332, 1, none⟩) (Kd.R_far (p := ⟨gb332, 0, none⟩) (Kd.R_types HO330.out BK332.out (by decide)) (fun _ hk => hk.2) (.slice Ao98 t325.length co98)) (fun _ hk => hk.2) (.slice Ao105 t328.length co105)) (fun _ hk => ⟨hk.1.1.1.2, ⟨hk.1.1.2, hk.1.2⟩⟩))⟩, ⟨by (with_reducible repeat (first | refine blk_drewN ?_ _ | refine blk_drew ?_ | refine blk_alloc ?_ _)); refine blk_far ?_ NB284_332.out _; (with_reducible repeat (first | refine blk_drewN ?_ _ | refine blk_drew ?_ | refine blk_alloc ?_ _)); refine blk_far ?_ NB284_332.out _; (with_reducible repeat (first | refine blk_drewN ?_ _ | refine blk_drew ?_ | refine blk_alloc ?_ _)); exact BK284.out⟩, ⟨by (with_reducible repeat (first | refine blk_drewN ?_ _ | refine blk_drew ?_ | refine blk_alloc ?_ _)); refine blk_far ?_ NB285_332.out _; (with_reducible repeat (first | refine blk_drewN ?_ _ | refine blk_drew ?_ | refine blk_alloc ?_ _)); refine blk_far ?_ NB285_332.out _; (with_reducible repeat (first | refine blk_drewN ?_ _ | refine blk_drew ?_ | refine blk_alloc ?_ _)); exact BK285.out⟩, ⟨by (with_reducible repeat (first | refine blk_drewN ?_ _ | refine blk_drew ?_ | refine blk_alloc ?_ _)); refine blk_far ?_ NB303_332.out _; (with_reducible repeat (first | refine blk_drewN ?_ _ | refine blk_drew ?_ | refine blk_alloc ?_ _)); refine blk_far ?_ NB303_332.out _; (with_reducible repeat (first | refine blk_drewN ?_ _ | refine blk_drew ?_ | refine blk_alloc ?_ _)); exact BK303.out⟩, ⟨by (with_reducible repeat (first | refine blk_drewN ?_ _ | refine blk_drew ?_ | refine blk_alloc ?_ _)); refine blk_far ?_ NB316_332.out _; (with_reducible repeat (first | refine blk_drewN ?_ _ | refine blk_drew ?_ | refine blk_alloc ?_ _)); refine blk_far ?_ NB316_332.out _; (with_reducible repeat (first | refine blk_drewN ?_ _ | refine blk_drew ?_ | refine blk_alloc ?_ _)); exact BK316.out⟩, ⟨by (with_reducible repeat (first | refine blk_drewN ?_ _ | refine blk_drew ?_ | refine blk_alloc ?_ _)); refine blk_far ?_ NB324_332.out _; (with_reducible repeat (first | refine blk_drewN ?_ _ | refine blk_drew ?_ | refine blk_alloc ?_ _)); refine blk_far ?_ NB324_332.out _; (with_reducible repeat (first | refine blk_drewN ?_ _ | refine blk_drew ?_ | refine blk_alloc ?_ _)); exact BK324.out⟩, ⟨by (with_reducible repeat (first | refine blk_drewN ?_ _ | refine blk_drew ?_ | refine blk_alloc ?_ _)); refine blk_put (cs := #[.slice Ao98 t325.length co98, .slice none 0 0]) ?_ 1 _ rfl; (with_reducible repeat (first | refine blk_drewN ?_ _ | refine blk_drew ?_ | refine blk_alloc ?_ _)); refine blk_put (cs := #[.slice none 0 0, .slice none 0 0]) ?_ 0 _ rfl; (with_reducible repeat (first | refine blk_drewN ?_ _ | refine blk_drew ?_ | refine blk_alloc ?_ _)); exact BK332.out⟩, ⟨zw6_ HB GE284 GE285 GE303 GE316 GE324 GE332⟩⟩
           case round =>
            clear H'
            try clear c1
            try clear c2
            try clear p2
            try clear c4
            try clear c7
            try clear c8
            try clear c9
            try clear c10
            try clear c19
            try clear c20
            try clear c43
            try clear c44
            try clear c79
            try clear c80
            try clear c81
            try clear c83
            try clear c84
            try clear c89
            try clear c90
            try clear c91
            try clear c92
            try clear c99
            try clear c100
            try clear c101
            try clear c102
            try clear c103
            try clear c106
            try clear c106b0
            try clear c106b1
            try clear hcz104_0
            try clear hcz104_1
            try clear hcz82_0
            try clear hcz82_1
            try clear hcz85_0
            try clear hcz85_1
            try clear hcz93_0
            try clear hcz93_1
            try clear hcz95_0
            try clear hcz95_1
            try clear hfz104_0
            try clear hfz104_1
            try clear hfz82_0
            try clear hfz82_1
            try clear hfz85_0
            try clear hfz85_1
            try clear hfz93_0
            try clear hfz93_1
            try clear hfz95_0
            try clear hfz95_1
            obtain ⟨x11_2, x304001_2, x317001_2, x325001_2, x333001_2, u304001, u317001, u325001, u333001, rfl, HA, HK2, HO_304000, HO_304001, HO_317000, HO_317001, HO_325000, HO_325001, HO_333000, HO_333001, BK284, BK285, BK303, BK316, BK324, BK332, HB⟩ := hrel
            cases gk with
            | zero => exact absurd HA.out (by simp [carousellaw6_TensKeeps.l0])
            | succ k2 =>
             have H := HA.out
             clear HA
             simp only [carousellaw6_TensKeeps.l0] at H
             by_cases c107 : x11_2 < (x325001_2.length : Int)
             ·rw [if_pos c107] at H
              have c107b0 : decide (x11_2 < (x325001_2.length : Int)) = true := decide_eq_true c107
              clear c107
              by_cases c108 : 0 ≤ x11_2
              ·rw [if_pos c108] at H
               have c108b0 : decide (0 ≤ x11_2) = true := decide_eq_true c108
               clear c108
               obtain ⟨y333, hy333⟩ : ∃ y_ : List Int, y_ = (x325001_2.set (x11_2 : Int).toNat 9) := ⟨_, rfl⟩
               replace H : (carousellaw6_TensKeeps.l0 k2 (wrap64 (x11_2 + 1)) l0_0 l0_1 l1_0 l1_1 y294 x304001_2 y307 x317001_2 t317 y333 t325 x333001_2) = some r := by first | (rw [hy333]; with_reducible exact H) | (have H2_ := (Option.bind_some _ _).symm.trans H; rw [hy333]; with_reducible exact H2_) | (have H2_ := (Option.bind_some _ _).symm.trans H; with_reducible exact H2_) | with_reducible exact H | (rw [hy333]; exact H) | exact H
               have Ny333 := Aside0.mk hy333
               clear hy333
               have H' := Aside0.mk H
               clear H
               have hnb110 := NB324_284.out
               have hnc110 := NB284_324.out
               have hnb111 := NB324_285.out
               have hnc111 := NB285_324.out
               have hnb112 := NB324_303.out
               have hnc112 := NB303_324.out
               have hnb113 := NB324_316.out
               have hnc113 := NB316_324.out
               have hnb114 := NB324_332.out
               have hnc114 := NB332_324.out
               have hcz115_0 := zx_ (v := .slice Ao88 t317.length co88) BK324 0
               have hcz115_1 := zx_ (v := u325001) BK324 1
               have hfz115_0 := blk_frozen BK324.out 0
               have hfz115_1 := blk_frozen BK324.out 1
               obtain ⟨Ao116, co116, eo116⟩ := Kd.R_slice HO_325001.out
               subst eo116
               have p109 : 0 ≤ (x11_2 : Int) := of_decide_eq_true (by first | (with_reducible assumption) | assumption)
               have q109 : (x11_2 : Int) < ((x325001_2.length : Int) : Int) := of_decide_eq_true (by first | (with_reducible assumption) | assumption)
               obtain ⟨go109, co109, eo109, gb109, gl109, cl109, HG109⟩ := Kd.R_form HO_325001.out (by omega)
               (first | cases eo109 | (injection eo109 with ea_ en_ ec_; (first | subst ea_ | (injection ea_ with ea_; subst ea_)); subst ec_; clear en_))
               have GB109 := Aside0.mk gb109
               have GG109 := Aside0.mk HG109
               clear gb109 gl109 HG109
               obtain ⟨hx109_0, hf109_0⟩ := Kd.R_celln 0 HO_325001.out (x11_2 : Int) p109 q109
               replace p109 := eq_true p109
               replace q109 := eq_true q109
               have HP117 := Kd.R_putg HO_325001.out (x11_2 : Int) 9
               go_wp2_with (first | ((with_reducible refine gate_store (t := 23) (p := 74) rfl ?_); refine store_event (t := 23) (p := 74) (v := ?vo_w118) (w1 := (wr.setCell ⟨go109, (x11_2 : Int).toNat, none⟩ (.int .i64 9))) ?hg ?ho ?hn ?hr ?_; (case ho => rfl); (case hg => rfl); (case hn => rfl); (case hr => first | (go_simp; done) | (go_simp; rfl)); intro w118 hw; have hg : wr.grownBy w118 (some go109) := (by rw [hw]; exact HP117.2); have hp_ : Kd.R (Kd.int .i64) 23 w118 w.heap.size (fun k_ => some k_ ≠ (u304001 : Value).ownBlock ∧ some k_ ≠ (u317001 : Value).ownBlock ∧ some k_ ≠ (u333001 : Value).ownBlock) (.slice (some ⟨go109, 0, none⟩) x325001_2.length co116) y333 := (by rw [hw, Ny333.out]; exact HP117.1); clear HP117; replace HO_304000 := Aside0.mk (Kd.R_over' (v := (.slice (some ⟨go109, 0, none⟩) x325001_2.length co116)) (zr_ HO_304000.out) (Kd.R_typed HO_325001.out) (by decide) hg); replace HO_304001 := Aside0.mk (Kd.R_after (v := (.slice (some ⟨go109, 0, none⟩) x325001_2.length co116)) (v1 := (.slice (some ⟨go109, 0, none⟩) x325001_2.length co116)) (ok := (fun k_ => some k_ ≠ (u317001 : Value).ownBlock ∧ some k_ ≠ (u333001 : Value).ownBlock)) (zr_ (Kd.R_mono HO_304001.out (fun _ hk => ⟨⟨hk.1, hk.2.2⟩, hk.2.1⟩))) hg (.inl rfl)); replace HO_317000 := Aside0.mk (Kd.R_over' (v := (.slice (some ⟨go109, 0, none⟩) x325001_2.length co116)) (zr_ HO_317000.out) (Kd.R_typed HO_325001.out) (by decide) hg); replace HO_317001 := Aside0.mk (Kd.R_after (v := (.slice (some ⟨go109, 0, none⟩) x325001_2.length co116)) (v1 := (.slice (some ⟨go109, 0, none⟩) x325001_2.length co116)) (ok := (fun k_ => some k_ ≠ (u304001 : Value).ownBlock ∧ some k_ ≠ (u333001 : Value).ownBlock)) (zr_ (Kd.R_mono HO_317001.out (fun _ hk => ⟨⟨hk.1, hk.2.2⟩, hk.2.1⟩))) hg (.inl rfl)); replace HO_325000 := Aside0.mk (Kd.R_over' (v := (.slice (some ⟨go109, 0, none⟩) x325001_2.length co116)) (zr_ HO_325000.out) (Kd.R_typed HO_325001.out) (by decide) hg); replace HO_333000 := Aside0.mk (Kd.R_over' (v := (.slice (some ⟨go109, 0, none⟩) x325001_2.length co116)) (zr_ HO_333000.out) (Kd.R_typed HO_325001.out) (by decide) hg); replace HO_333001 := Aside0.mk (Kd.R_after (v := (.slice (some ⟨go109, 0, none⟩) x325001_2.length co116)) (v1 := (.slice (some ⟨go109, 0, none⟩) x325001_2.length co116)) (ok := (fun k_ => some k_ ≠ (u304001 : Value).ownBlock ∧ some k_ ≠ (u317001 : Value).ownBlock)) (zr_ (Kd.R_mono HO_333001.out (fun _ hk => ⟨⟨hk.1, hk.2.1⟩, hk.2.2⟩))) hg (.inl rfl)); replace BK284 := Aside0.mk (zh_ BK284 hg (Kd.R_ne HO_325001.out BK284.out (by decide))); replace BK285 := Aside0.mk (zh_ BK285 hg (Kd.R_ne HO_325001.out BK285.out (by decide))); replace BK303 := Aside0.mk (zh_ BK303 hg (Kd.R_ne HO_325001.out BK303.out (by decide))); replace BK316 := Aside0.mk (zh_ BK316 hg (Kd.R_ne HO_325001.out BK316.out (by decide))); replace BK324 := Aside0.mk (zh_ BK324 hg (Kd.R_ne HO_325001.out BK324.out (by decide))); replace BK332 := Aside0.mk (zh_ BK332 hg (Kd.R_ne HO_325001.out BK332.out (by decide))); replace HO_325001 := Aside0.mk (hp_); replace HB := Aside0.mk ((by rw [hw]; exact below_set (HB.out) GB109.out : Below w.heap.size w w118)); clear hg hw hp_))
               go_roundg k2
               case measure => have := HJ4.out; have := HK2.out; omega
               case rel => exact ⟨(wrap64 (x11_2 + 1)), (x304001_2), (x317001_2), (y333), (x333001_2), (u304001), (u317001), (.slice (some ⟨go109, 0, none⟩) x325001_2.length co116), (u333001), (by first | rfl | (simp; done) | (simp [*]; done)), H', ⟨by have := HJ4.out; have := HK2.out; omega⟩, ⟨zr_ HO_304000.out⟩, ⟨zr_ (Kd.R_mono HO_304001.out (fun _ hk => ⟨hk.1.1, ⟨hk.2, hk.1.2⟩⟩))⟩, ⟨zr_ HO_317000.out⟩, ⟨zr_ (Kd.R_mono HO_317001.out (fun _ hk => ⟨hk.1.1, ⟨hk.2, hk.1.2⟩⟩))⟩, ⟨zr_ HO_325000.out⟩, ⟨zr_ HO_325001.out⟩, ⟨zr_ HO_333000.out⟩, ⟨zr_ (Kd.R_mono HO_333001.out (fun _ hk => ⟨hk.1.1, ⟨hk.1.2, hk.2⟩⟩))⟩, ⟨zb_ BK284⟩, ⟨zb_ BK285⟩, ⟨zb_ BK303⟩, ⟨zb_ BK316⟩, ⟨zb_ BK324⟩, ⟨zb_ BK332⟩, ⟨zw6_ HB GE284 GE285 GE303 GE316 GE324 GE332⟩⟩
              ·rw [if_neg c108] at H
               exact absurd H (by simp)
             ·rw [if_neg c107] at H
              have c107b0 : decide (x11_2 < (x325001_2.length : Int)) = false := decide_eq_false c107
              clear c107
              have H' := Aside0.mk H
              clear H
              have hnb119 := NB324_284.out
              have hnc119 := NB284_324.out
              have hnb120 := NB324_285.out
              have hnc120 := NB285_324.out
              have hnb121 := NB324_303.out
              have hnc121 := NB303_324.out
              have hnb122 := NB324_316.out
              have hnc122 := NB316_324.out
              have hnb123 := NB324_332.out
              have hnc123 := NB332_324.out
              have hcz124_0 := zx_ (v := .slice Ao88 t317.length co88) BK324 0
              have hcz124_1 := zx_ (v := u325001) BK324 1
              have hfz124_0 := blk_frozen BK324.out 0
              have hfz124_1 := blk_frozen BK324.out 1
              obtain ⟨Ao125, co125, eo125⟩ := Kd.R_slice HO_325001.out
              subst eo125
              go_wp2
              go_meet
              case rel => exact ⟨_, (x304001_2), (x317001_2), (x325001_2), (x333001_2), (u304001), (u317001), (.slice Ao125 x325001_2.length co125), (u333001), H', ⟨by have := HJ4.out; have := HK2.out; first | omega | exact Nat.le_refl _⟩, ⟨zr_ HO_304000.out⟩, ⟨zr_ HO_304001.out⟩, ⟨zr_ HO_317000.out⟩, ⟨zr_ HO_317001.out⟩, ⟨zr_ HO_325000.out⟩, ⟨zr_ HO_325001.out⟩, ⟨zr_ HO_333000.out⟩, ⟨zr_ HO_333001.out⟩, ⟨zb_ BK284⟩, ⟨zb_ BK285⟩, ⟨zb_ BK303⟩, ⟨zb_ BK316⟩, ⟨zb_ BK324⟩, ⟨zb_ BK332⟩, ⟨zw6_ HB GE284 GE285 GE303 GE316 GE324 GE332⟩⟩
          ·rw [if_neg c106] at H
           have c106b0 : (t323 == 0) = false := beq_eq_false_iff_ne.mpr c106
           have c106b1 : (t323 != 0) = true := bne_iff_ne.mpr c106
           (first | rw [c106b0] | (simp only [i64_w, i32_w]; rw [c106b0]) | skip)
           have H' := Aside0.mk H
           clear H
           go_wp2
           go_meet
           case rel => exact ⟨_, (y300), (y313), (t320), (t328), (.slice Ao59 y300.length co59), (.slice Ao75 y313.length co75), (.slice Ao94 t320.length co94), (.slice Ao105 t328.length co105), H', ⟨by have := HJ4.out; first | omega | exact Nat.le_refl _⟩, ⟨zr_ (Kd.R_mono (Kd.R_far (p := ⟨gb332, 1, none⟩) (Kd.R_far (p := ⟨gb332, 0, none⟩) (Kd.R_types HO296.out BK332.out (by decide)) (fun _ hk => hk.2) (.slice Ao98 t325.length co98)) (fun _ hk => hk.2) (.slice Ao105 t328.length co105)) (fun _ hk => ⟨hk.1.1.1, ⟨hk.1.1.2, hk.1.2⟩⟩))⟩, ⟨zr_ (Kd.R_mono (Kd.R_far (p := ⟨gb332, 1, none⟩) (Kd.R_far (p := ⟨gb332, 0, none⟩) (Kd.R_types HO302.out BK332.out (by decide)) (fun _ hk => hk.2) (.slice Ao98 t325.length co98)) (fun _ hk => hk.2) (.slice Ao105 t328.length co105)) (fun _ hk => ⟨hk.1.1.1, ⟨hk.1.1.2, hk.1.2⟩⟩))⟩, ⟨zr_ (Kd.R_mono (Kd.R_far (p := ⟨gb332, 1, none⟩) (Kd.R_far (p := ⟨gb332, 0, none⟩) (Kd.R_types HO309.out BK332.out (by decide)) (fun _ hk => hk.2) (.slice Ao98 t325.length co98)) (fun _ hk => hk.2) (.slice Ao105 t328.length co105)) (fun _ hk => ⟨hk.1.1.1, ⟨hk.1.1.2, hk.1.2⟩⟩))⟩, ⟨zr_ (Kd.R_mono (Kd.R_far (p := ⟨gb332, 1, none⟩) (Kd.R_far (p := ⟨gb332, 0, none⟩) (Kd.R_types HO315.out BK332.out (by decide)) (fun _ hk => hk.2) (.slice Ao98 t325.length co98)) (fun _ hk => hk.2) (.slice Ao105 t328.length co105)) (fun _ hk => ⟨hk.1.1.1, ⟨hk.1.1.2, hk.1.2⟩⟩))⟩, ⟨zr_ (Kd.R_mono (Kd.R_far (p := ⟨gb332, 1, none⟩) (Kd.R_far (p := ⟨gb332, 0, none⟩) (Kd.R_types HO319.out BK332.out (by decide)) (fun _ hk => hk.2) (.slice Ao98 t325.length co98)) (fun _ hk => hk.2) (.slice Ao105 t328.length co105)) (fun _ hk => ⟨hk.1.1.1.2, ⟨hk.1.1.2, hk.1.2⟩⟩))⟩, ⟨zr_ (Kd.R_mono (Kd.R_far (p := ⟨gb332, 1, none⟩) (Kd.R_far (p := ⟨gb332, 0, none⟩) (Kd.R_types HO322.out BK332.out (by decide)) (fun _ hk => hk.2) (.slice Ao98 t325.length co98)) (fun _ hk => hk.2) (.slice Ao105 t328.length co105)) (fun _ hk => ⟨hk.1.1.1.2, ⟨hk.1.1.2, hk.1.2⟩⟩))⟩, ⟨zr_ (Kd.R_mono (Kd.R_far (p := ⟨gb332, 1, none⟩) (Kd.R_far (p := ⟨gb332, 0, none⟩) (Kd.R_types HO327.out BK332.out (by decide)) (fun _ hk => hk.2) (.slice Ao98 t325.length co98)) (fun _ hk => hk.2) (.slice Ao105 t328.length co105)) (fun _ hk => ⟨hk.1.1.1.2, ⟨hk.1.1.2, hk.1.2⟩⟩))⟩, ⟨zr_ (Kd.R_mono (Kd.R_far (p := ⟨gb332, 1, none⟩) (Kd.R_far (p := ⟨gb332, 0, none⟩) (Kd.R_types HO330.out BK332.out (by decide)) (fun _ hk => hk.2) (.slice Ao98 t325.length co98)) (fun _ hk => hk.2) (.slice Ao105 t328.length co105)) (fun _ hk => ⟨hk.1.1.1.2, ⟨hk.1.1.2, hk.1.2⟩⟩))⟩, ⟨by (with_reducible repeat (first | refine blk_drewN ?_ _ | refine blk_drew ?_ | refine blk_alloc ?_ _)); refine blk_far ?_ NB284_332.out _; (with_reducible repeat (first | refine blk_drewN ?_ _ | refine blk_drew ?_ | refine blk_alloc ?_ _)); refine blk_far ?_ NB284_332.out _; (with_reducible repeat (first | refine blk_drewN ?_ _ | refine blk_drew ?_ | refine blk_alloc ?_ _)); exact BK284.out⟩, ⟨by (with_reducible repeat (first | refine blk_drewN ?_ _ | refine blk_drew ?_ | refine blk_alloc ?_ _)); refine blk_far ?_ NB285_332.out _; (with_reducible repeat (first | refine blk_drewN ?_ _ | refine blk_drew ?_ | refine blk_alloc ?_ _)); refine blk_far ?_ NB285_332.out _; (with_reducible repeat (first | refine blk_drewN ?_ _ | refine blk_drew ?_ | refine blk_alloc ?_ _)); exact BK285.out⟩, ⟨by (with_reducible repeat (first | refine blk_drewN ?_ _ | refine blk_drew ?_ | refine blk_alloc ?_ _)); refine blk_far ?_ NB303_332.out _; (with_reducible repeat (first | refine blk_drewN ?_ _ | refine blk_drew ?_ | refine blk_alloc ?_ _)); refine blk_far ?_ NB303_332.out _; (with_reducible repeat (first | refine blk_drewN ?_ _ | refine blk_drew ?_ | refine blk_alloc ?_ _)); exact BK303.out⟩, ⟨by (with_reducible repeat (first | refine blk_drewN ?_ _ | refine blk_drew ?_ | refine blk_alloc ?_ _)); refine blk_far ?_ NB316_332.out _; (with_reducible repeat (first | refine blk_drewN ?_ _ | refine blk_drew ?_ | refine blk_alloc ?_ _)); refine blk_far ?_ NB316_332.out _; (with_reducible repeat (first | refine blk_drewN ?_ _ | refine blk_drew ?_ | refine blk_alloc ?_ _)); exact BK316.out⟩, ⟨by (with_reducible repeat (first | refine blk_drewN ?_ _ | refine blk_drew ?_ | refine blk_alloc ?_ _)); refine blk_far ?_ NB324_332.out _; (with_reducible repeat (first | refine blk_drewN ?_ _ | refine blk_drew ?_ | refine blk_alloc ?_ _)); refine blk_far ?_ NB324_332.out _; (with_reducible repeat (first | refine blk_drewN ?_ _ | refine blk_drew ?_ | refine blk_alloc ?_ _)); exact BK324.out⟩, ⟨by (with_reducible repeat (first | refine blk_drewN ?_ _ | refine blk_drew ?_ | refine blk_alloc ?_ _)); refine blk_put (cs := #[.slice Ao98 t325.length co98, .slice none 0 0]) ?_ 1 _ rfl; (with_reducible repeat (first | refine blk_drewN ?_ _ | refine blk_drew ?_ | refine blk_alloc ?_ _)); refine blk_put (cs := #[.slice none 0 0, .slice none 0 0]) ?_ 0 _ rfl; (with_reducible repeat (first | refine blk_drewN ?_ _ | refine blk_drew ?_ | refine blk_alloc ?_ _)); exact BK332.out⟩, ⟨zw6_ HB GE284 GE285 GE303 GE316 GE324 GE332⟩⟩
         case rest =>
          clear HC47
          try clear c1
          try clear p1
          try clear q1
          try clear hx1
          try clear c2
          try clear p2
          try clear c4
          try clear p6
          try clear c7
          try clear c8
          try clear c9
          try clear c10
          try clear p10
          try clear q10
          try clear hx10
          try clear hf10
          try clear c11
          try clear c12
          try clear c19
          try clear c20
          try clear c43
          try clear c44
          try clear p64
          try clear c79
          try clear c80
          try clear c81
          try clear c83
          try clear c84
          try clear c89
          try clear c90
          try clear c91
          try clear c92
          try clear c99
          try clear c100
          try clear c101
          try clear c102
          try clear c103
          try clear c106
          try clear c106b0
          try clear c106b1
          try clear c107
          try clear c107b0
          try clear c108
          try clear c108b0
          try clear p109
          try clear q109
          try clear hx109
          try clear hf109
          try clear c110
          try clear c111
          try clear c112
          try clear c113
          try clear c114
          try clear c119
          try clear c120
          try clear c121
          try clear c122
          try clear c123
          try clear hcz104_0
          try clear hcz104_1
          try clear hcz115_0
          try clear hcz115_1
          try clear hcz124_0
          try clear hcz124_1
          try clear hcz82_0
          try clear hcz82_1
          try clear hcz85_0
          try clear hcz85_1
          try clear hcz93_0
          try clear hcz93_1
          try clear hcz95_0
          try clear hcz95_1
          try clear hfz104_0
          try clear hfz104_1
          try clear hfz115_0
          try clear hfz115_1
          try clear hfz124_0
          try clear hfz124_1
          try clear hfz82_0
          try clear hfz82_1
          try clear hfz85_0
          try clear hfz85_1
          try clear hfz93_0
          try clear hfz93_1
          try clear hfz95_0
          try clear hfz95_1
          try clear hx109_0
          try clear p109
          try clear p2
          try clear q109
          obtain ⟨kq, x304001_46, x317001_46, x325001_46, x333001_46, u304001, u317001, u325001, u333001, HA, HJ46, HO_304000, HO_304001, HO_317000, HO_317001, HO_325000, HO_325001, HO_333000, HO_333001, BK284, BK285, BK303, BK316, BK324, BK332, HB⟩ := hcut
          cases kq with
          | zero => exact absurd HA.out (by simp [carousellaw6_TensKeeps.j2])
          | succ kj46 =>
           have H := HA.out
           clear HA
           simp only [carousellaw6_TensKeeps.j2] at H
           have H' := Aside0.mk H
           clear H
           go_wp2
           go_loopg [12] kj46 (fun kq v12 w' => ∃ (x12_3 : Int) (x304001_3 : List Int) (x317001_3 : List Int) (x325001_3 : List Int) (x333001_3 : List Int) (u304001 : Value) (u317001 : Value) (u325001 : Value) (u333001 : Value), v12 = .int .i64 x12_3 ∧ Aside0 (carousellaw6_TensKeeps.l1 kq x12_3 l0_0 l0_1 l1_0 l1_1 y294 x304001_3 y307 x317001_3 t325 x333001_3 = some r) ∧ Aside0 (kq ≤ kj46) ∧ Aside0 (Kd.R (Kd.int .i64) 3 w' w.heap.size (fun k_ => some k_ ≠ ((.slice Ao76 y307.length co76) : Value).ownBlock ∧ some k_ ≠ ((.slice Ao88 t317.length co88) : Value).ownBlock ∧ some k_ ≠ ((.slice Ao98 t325.length co98) : Value).ownBlock) (.slice Ao60 y294.length co60) y294) ∧ Aside0 (Kd.R (Kd.int .i64) 23 w' w.heap.size (fun k_ => some k_ ≠ (u317001 : Value).ownBlock ∧ some k_ ≠ (u325001 : Value).ownBlock ∧ some k_ ≠ (u333001 : Value).ownBlock) u304001 x304001_3) ∧ Aside0 (Kd.R (Kd.int .i64) 3 w' w.heap.size (fun k_ => some k_ ≠ ((.slice Ao60 y294.length co60) : Value).ownBlock ∧ some k_ ≠ ((.slice Ao88 t317.length co88) : Value).ownBlock ∧ some k_ ≠ ((.slice Ao98 t325.length co98) : Value).ownBlock) (.slice Ao76 y307.length co76) y307) ∧ Aside0 (Kd.R (Kd.int .i64) 23 w' w.heap.size (fun k_ => some k_ ≠ (u304001 : Value).ownBlock ∧ some k_ ≠ (u325001 : Value).ownBlock ∧ some k_ ≠ (u333001 : Value).ownBlock) u317001 x317001_3) ∧ Aside0 (Kd.R (Kd.int .i64) 3 w' w.heap.size (fun k_ => some k_ ≠ ((.slice Ao60 y294.length co60) : Value).ownBlock ∧ some k_ ≠ ((.slice Ao76 y307.length co76) : Value).ownBlock ∧ some k_ ≠ ((.slice Ao98 t325.length co98) : Value).ownBlock) (.slice Ao88 t317.length co88) t317) ∧ Aside0 (Kd.R (Kd.int .i64) 23 w' w.heap.size (fun k_ => some k_ ≠ (u304001 : Value).ownBlock ∧ some k_ ≠ (u317001 : Value).ownBlock ∧ some k_ ≠ (u333001 : Value).ownBlock) u325001 x325001_3) ∧ Aside0 (Kd.R (Kd.int .i64) 3 w' w.heap.size (fun k_ => some k_ ≠ ((.slice Ao60 y294.length co60) : Value).ownBlock ∧ some k_ ≠ ((.slice Ao76 y307.length co76) : Value).ownBlock ∧ some k_ ≠ ((.slice Ao88 t317.length co88) : Value).ownBlock) (.slice Ao98 t325.length co98) t325) ∧ Aside0 (Kd.R (Kd.int .i64) 23 w' w.heap.size (fun k_ => some k_ ≠ (u304001 : Value).ownBlock ∧ some k_ ≠ (u317001 : Value).ownBlock ∧ some k_ ≠ (u325001 : Value).ownBlock) u333001 x333001_3) ∧ Aside0 (w'.heap[gb284]? = some (.cells #[(.slice A0_0 l0_0.length c0_0), (.slice A0_1 l0_1.length c0_1)] 27 (0, 0))) ∧ Aside0 (w'.heap[gb285]? = some (.cells #[(.slice A1_0 l1_0.length c1_0), (.slice A1_1 l1_1.length c1_1)] 27 (0, 0))) ∧ Aside0 (w'.heap[gb303]? = some (.cells #[(.slice Ao60 y294.length co60), u304001] 27 (0, 0))) ∧ Aside0 (w'.heap[gb316]? = some (.cells #[(.slice Ao76 y307.length co76), u317001] 27 (0, 0))) ∧ Aside0 (w'.heap[gb324]? = some (.cells #[(.slice Ao88 t317.length co88), u325001] 27 (0, 0))) ∧ Aside0 (w'.heap[gb332]? = some (.cells #[(.slice Ao98 t325.length co98), u333001] 27 (0, 0))) ∧ Aside0 (Below w.heap.size w w'))
           case atStart => exact ⟨(0), (x304001_46), (x317001_46), (x325001_46), (x333001_46), (u304001), (u317001), (u325001), (u333001), (by first | rfl | (simp; done) | (simp [*]; done)), H', ⟨Nat.le_refl _⟩, ⟨zr_ HO_304000.out⟩, ⟨zr_ HO_304001.out⟩, ⟨zr_ HO_317000.out⟩, ⟨zr_ HO_317001.out⟩, ⟨zr_ HO_325000.out⟩, ⟨zr_ HO_325001.out⟩, ⟨zr_ HO_333000.out⟩, ⟨zr_ HO_333001.out⟩, ⟨zb_ BK284⟩, ⟨zb_ BK285⟩, ⟨zb_ BK303⟩, ⟨zb_ BK316⟩, ⟨zb_ BK324⟩, ⟨zb_ BK332⟩, ⟨zw6_ HB GE284 GE285 GE303 GE316 GE324 GE332⟩⟩
           case round =>
            clear H'
            try clear c1
            try clear p1
            try clear q1
            try clear hx1
            try clear c2
            try clear p2
            try clear c4
            try clear p6
            try clear c7
            try clear c8
            try clear c9
            try clear c10
            try clear p10
            try clear q10
            try clear hx10
            try clear hf10
            try clear c11
            try clear c12
            try clear c19
            try clear c20
            try clear c43
            try clear c44
            try clear p64
            try clear c79
            try clear c80
            try clear c81
            try clear c83
            try clear c84
            try clear c89
            try clear c90
            try clear c91
            try clear c92
            try clear c99
            try clear c100
            try clear c101
            try clear c102
            try clear c103
            try clear c106
            try clear c106b0
            try clear c106b1
            try clear c107
            try clear c107b0
            try clear c108
            try clear c108b0
            try clear p109
            try clear q109
            try clear hx109
            try clear hf109
            try clear c110
            try clear c111
            try clear c112
            try clear c113
            try clear c114
            try clear c119
            try clear c120
            try clear c121
            try clear c122
            try clear c123
            try clear hcz104_0
            try clear hcz104_1
            try clear hcz115_0
            try clear hcz115_1
            try clear hcz124_0
            try clear hcz124_1
            try clear hcz82_0
            try clear hcz82_1
            try clear hcz85_0
            try clear hcz85_1
            try clear hcz93_0
            try clear hcz93_1
            try clear hcz95_0
            try clear hcz95_1
            try clear hfz104_0
            try clear hfz104_1
            try clear hfz115_0
            try clear hfz115_1
            try clear hfz124_0
            try clear hfz124_1
            try clear hfz82_0
            try clear hfz82_1
            try clear hfz85_0
            try clear hfz85_1
            try clear hfz93_0
            try clear hfz93_1
            try clear hfz95_0
            try clear hfz95_1
            try clear hx109_0
            try clear p1
            try clear p10
            try clear p109
            try clear p2
            try clear p6
            try clear p64
            try clear q1
            try clear q10
            try clear q109
            obtain ⟨x12_3, x304001_3, x317001_3, x325001_3, x333001_3, u304001, u317001, u325001, u333001, rfl, HA, HK3, HO_304000, HO_304001, HO_317000, HO_317001, HO_325000, HO_325001, HO_333000, HO_333001, BK284, BK285, BK303, BK316, BK324, BK332, HB⟩ := hrel
            cases gk with
            | zero => exact absurd HA.out (by simp [carousellaw6_TensKeeps.l1])
            | succ k3 =>
             have H := HA.out
             clear HA
             simp only [carousellaw6_TensKeeps.l1] at H
             by_cases c126 : x12_3 < (x333001_3.length : Int)
             ·rw [if_pos c126] at H
              have c126b0 : decide (x12_3 < (x333001_3.length : Int)) = true := decide_eq_true c126
              clear c126
              by_cases c127 : 0 ≤ x12_3
              ·rw [if_pos c127] at H
               have c127b0 : decide (0 ≤ x12_3) = true := decide_eq_true c127
               clear c127
               obtain ⟨y334, hy334⟩ : ∃ y_ : List Int, y_ = (x333001_3.set (x12_3 : Int).toNat 7) := ⟨_, rfl⟩
               replace H : (carousellaw6_TensKeeps.l1 k3 (wrap64 (x12_3 + 1)) l0_0 l0_1 l1_0 l1_1 y294 x304001_3 y307 x317001_3 t325 y334) = some r := by first | (rw [hy334]; with_reducible exact H) | (have H2_ := (Option.bind_some _ _).symm.trans H; rw [hy334]; with_reducible exact H2_) | (have H2_ := (Option.bind_some _ _).symm.trans H; with_reducible exact H2_) | with_reducible exact H | (rw [hy334]; exact H) | exact H
               have Ny334 := Aside0.mk hy334
               clear hy334
               have H' := Aside0.mk H
               clear H
               have hnb129 := NB332_284.out
               have hnc129 := NB284_332.out
               have hnb130 := NB332_285.out
               have hnc130 := NB285_332.out
               have hnb131 := NB332_303.out
               have hnc131 := NB303_332.out
               have hnb132 := NB332_316.out
               have hnc132 := NB316_332.out
               have hnb133 := NB332_324.out
               have hnc133 := NB324_332.out
               have hcz134_0 := zx_ (v := .slice Ao98 t325.length co98) BK332 0
               have hcz134_1 := zx_ (v := u333001) BK332 1
               have hfz134_0 := blk_frozen BK332.out 0
               have hfz134_1 := blk_frozen BK332.out 1
               obtain ⟨Ao135, co135, eo135⟩ := Kd.R_slice HO_333001.out
               subst eo135
               have p128 : 0 ≤ (x12_3 : Int) := of_decide_eq_true (by first | (with_reducible assumption) | assumption)
               have q128 : (x12_3 : Int) < ((x333001_3.length : Int) : Int) := of_decide_eq_true (by first | (with_reducible assumption) | assumption)
               obtain ⟨go128, co128, eo128, gb128, gl128, cl128, HG128⟩ := Kd.R_form HO_333001.out (by omega)
               (first | cases eo128 | (injection eo128 with ea_ en_ ec_; (first | subst ea_ | (injection ea_ with ea_; subst ea_)); subst ec_; clear en_))
               have GB128 := Aside0.mk gb128
               have GG128 := Aside0.mk HG128
               clear gb128 gl128 HG128
               obtain ⟨hx128_0, hf128_0⟩ := Kd.R_celln 0 HO_333001.out (x12_3 : Int) p128 q128
               replace p128 := eq_true p128
               replace q128 := eq_true q128
               have HP136 := Kd.R_putg HO_333001.out (x12_3 : Int) 7
               go_wp2_with (first | ((with_reducible refine gate_store (t := 23) (p := 85) rfl ?_); refine store_event (t := 23) (p := 85) (v := ?vo_w137) (w1 := (wr.setCell ⟨go128, (x12_3 : Int).toNat, none⟩ (.int .i64 7))) ?hg ?ho ?hn ?hr ?_; (case ho => rfl); (case hg => rfl); (case hn => rfl); (case hr => first | (go_simp; done) | (go_simp; rfl)); intro w137 hw; have hg : wr.grownBy w137 (some go128) := (by rw [hw]; exact HP136.2); have hp_ : Kd.R (Kd.int .i64) 23 w137 w.heap.size (fun k_ => some k_ ≠ (u304001 : Value).ownBlock ∧ some k_ ≠ (u317001 : Value).ownBlock ∧ some k_ ≠ (u325001 : Value).ownBlock) (.slice (some ⟨go128, 0, none⟩) x333001_3.length co135) y334 := (by rw [hw, Ny334.out]; exact HP136.1); clear HP136; replace HO_304000 := Aside0.mk (Kd.R_over' (v := (.slice (some ⟨go128, 0, none⟩) x333001_3.length co135)) (zr_ HO_304000.out) (Kd.R_typed HO_333001.out) (by decide) hg); replace HO_304001 := Aside0.mk (Kd.R_after (v := (.slice (some ⟨go128, 0, none⟩) x333001_3.length co135)) (v1 := (.slice (some ⟨go128, 0, none⟩) x333001_3.length co135)) (ok := (fun k_ => some k_ ≠ (u317001 : Value).ownBlock ∧ some k_ ≠ (u325001 : Value).ownBlock)) (zr_ (Kd.R_mono HO_304001.out (fun _ hk => ⟨⟨hk.1, hk.2.1⟩, hk.2.2⟩))) hg (.inl rfl)); replace HO_317000 := Aside0.mk (Kd.R_over' (v := (.slice (some ⟨go128, 0, none⟩) x333001_3.length co135)) (zr_ HO_317000.out) (Kd.R_typed HO_333001.out) (by decide) hg); replace HO_317001 := Aside0.mk (Kd.R_after (v := (.slice (some ⟨go128, 0, none⟩) x333001_3.length co135)) (v1 := (.slice (some ⟨go128, 0, none⟩) x333001_3.length co135)) (ok := (fun k_ => some k_ ≠ (u304001 : Value).ownBlock ∧ some k_ ≠ (u325001 : Value).ownBlock)) (zr_ (Kd.R_mono HO_317001.out (fun _ hk => ⟨⟨hk.1, hk.2.1⟩, hk.2.2⟩))) hg (.inl rfl)); replace HO_325000 := Aside0.mk (Kd.R_over' (v := (.slice (some ⟨go128, 0, none⟩) x333001_3.length co135)) (zr_ HO_325000.out) (Kd.R_typed HO_333001.out) (by decide) hg); replace HO_325001 := Aside0.mk (Kd.R_after (v := (.slice (some ⟨go128, 0, none⟩) x333001_3.length co135)) (v1 := (.slice (some ⟨go128, 0, none⟩) x333001_3.length co135)) (ok := (fun k_ => some k_ ≠ (u304001 : Value).ownBlock ∧ some k_ ≠ (u317001 : Value).ownBlock)) (zr_ (Kd.R_mono HO_325001.out (fun _ hk => ⟨⟨hk.1, hk.2.1⟩, hk.2.2⟩))) hg (.inl rfl)); replace HO_333000 := Aside0.mk (Kd.R_over' (v := (.slice (some ⟨go128, 0, none⟩) x333001_3.length co135)) (zr_ HO_333000.out) (Kd.R_typed HO_333001.out) (by decide) hg); replace BK284 := Aside0.mk (zh_ BK284 hg (Kd.R_ne HO_333001.out BK284.out (by decide))); replace BK285 := Aside0.mk (zh_ BK285 hg (Kd.R_ne HO_333001.out BK285.out (by decide))); replace BK303 := Aside0.mk (zh_ BK303 hg (Kd.R_ne HO_333001.out BK303.out (by decide))); replace BK316 := Aside0.mk (zh_ BK316 hg (Kd.R_ne HO_333001.out BK316.out (by decide))); replace BK324 := Aside0.mk (zh_ BK324 hg (Kd.R_ne HO_333001.out BK324.out (by decide))); replace BK332 := Aside0.mk (zh_ BK332 hg (Kd.R_ne HO_333001.out BK332.out (by decide))); replace HO_333001 := Aside0.mk (hp_); replace HB := Aside0.mk ((by rw [hw]; exact below_set (HB.out) GB128.out : Below w.heap.size w w137)); clear hg hw hp_))
               go_roundg k3
               case measure => have := HJ4.out; have := HJ46.out; have := HK3.out; omega
               case rel => exact ⟨(wrap64 (x12_3 + 1)), (x304001_3), (x317001_3), (x325001_3), (y334), (u304001), (u317001), (u325001), (.slice (some ⟨go128, 0, none⟩) x333001_3.length co135), (by first | rfl | (simp; done) | (simp [*]; done)), H', ⟨by have := HJ4.out; have := HJ46.out; have := HK3.out; omega⟩, ⟨zr_ HO_304000.out⟩, ⟨zr_ (Kd.R_mono HO_304001.out (fun _ hk => ⟨hk.1.1, ⟨hk.1.2, hk.2⟩⟩))⟩, ⟨zr_ HO_317000.out⟩, ⟨zr_ (Kd.R_mono HO_317001.out (fun _ hk => ⟨hk.1.1, ⟨hk.1.2, hk.2⟩⟩))⟩, ⟨zr_ HO_325000.out⟩, ⟨zr_ (Kd.R_mono HO_325001.out (fun _ hk => ⟨hk.1.1, ⟨hk.1.2, hk.2⟩⟩))⟩, ⟨zr_ HO_333000.out⟩, ⟨zr_ HO_333001.out⟩, ⟨zb_ BK284⟩, ⟨zb_ BK285⟩, ⟨zb_ BK303⟩, ⟨zb_ BK316⟩, ⟨zb_ BK324⟩, ⟨zb_ BK332⟩, ⟨zw6_ HB GE284 GE285 GE303 GE316 GE324 GE332⟩⟩
              ·rw [if_neg c127] at H
               exact absurd H (by simp)
             ·rw [if_neg c126] at H
              have c126b0 : decide (x12_3 < (x333001_3.length : Int)) = false := decide_eq_false c126
              clear c126
              replace H := Option.bind_eq_some_iff.mp H
              obtain ⟨t335, A1380, H⟩ := H
              replace H : (if t335 = true then ((tens_Same.f k3 y307 x317001_3 l1_0 l1_1).bind fun t336 => (some t336)) else (none)) = some r := H
              have A138 := Aside0.mk A1380
              clear A1380
              by_cases c139 : t335 = true
              ·subst c139
               have H1 : ((tens_Same.f k3 y307 x317001_3 l1_0 l1_1).bind fun t336 => (some t336)) = some r := by rw [if_pos rfl] at H; exact H
               clear H
               have H := H1
               clear H1
               replace H := Option.bind_eq_some_iff.mp H
               obtain ⟨t336, A1400, H⟩ := H
               replace H : (some t336) = some r := H
               have A140 := Aside0.mk A1400
               clear A1400
               obtain rfl := Option.some.inj H
               have hnb141 := NB332_284.out
               have hnc141 := NB284_332.out
               have hnb142 := NB332_285.out
               have hnc142 := NB285_332.out
               have hnb143 := NB332_303.out
               have hnc143 := NB303_332.out
               have hnb144 := NB332_316.out
               have hnc144 := NB316_332.out
               have hnb145 := NB332_324.out
               have hnc145 := NB324_332.out
               have hcz146_0 := zx_ (v := .slice Ao98 t325.length co98) BK332 0
               have hcz146_1 := zx_ (v := u333001) BK332 1
               have hfz146_0 := blk_frozen BK332.out 0
               have hfz146_1 := blk_frozen BK332.out 1
               obtain ⟨Ao147, co147, eo147⟩ := Kd.R_slice HO_333001.out
               subst eo147
               have hnb148 := NB303_284.out
               have hnc148 := NB284_303.out
               have hnb149 := NB303_285.out
               have hnc149 := NB285_303.out
               have hnb150 := NB303_316.out
               have hnc150 := NB316_303.out
               have hnb151 := NB303_324.out
               have hnc151 := NB324_303.out
               have hcz152_0 := zx_ (v := .slice Ao60 y294.length co60) BK303 0
               have hcz152_1 := zx_ (v := u304001) BK303 1
               have hfz152_0 := blk_frozen BK303.out 0
               have hfz152_1 := blk_frozen BK303.out 1
               have hnb153 := NB284_285.out
               have hnc153 := NB285_284.out
               have hnb154 := NB284_316.out
               have hnc154 := NB316_284.out
               have hnb155 := NB284_324.out
               have hnc155 := NB324_284.out
               have hcz156_0 := zx_ (v := .slice A0_0 l0_0.length c0_0) BK284 0
               have hcz156_1 := zx_ (v := .slice A0_1 l0_1.length c0_1) BK284 1
               have hfz156_0 := blk_frozen BK284.out 0
               have hfz156_1 := blk_frozen BK284.out 1
               obtain ⟨Ao157, co157, eo157⟩ := Kd.R_slice HO_304001.out
               subst eo157
               go_wp2_with (first | ((with_reducible refine gate_callee (f := 21) rfl ?_); refine zg_ (some 88) Try.func21 #[.agg #[.slice Ao60 y294.length co60, .slice Ao157 x304001_3.length co157], .agg #[.slice A0_0 l0_0.length c0_0, .slice A0_1 l0_1.length c0_1]] (h := ?_); (with_reducible refine (tens_Same.calls k3 _ _ y294 _ _ x304001_3 _ _ l0_0 _ _ l0_1 true _ ?side1 ?side2 ?side3 ?side4 ?side5 ?side6 ?side7 ?side8 A138.out).mono ?_); (case side1 => exact zk_ ((Kd.R_reads' HO_304000.out).2.2)); (case side2 => exact (Kd.R_reads' HO_304000.out).2.1); (case side3 => exact zk_ ((Kd.R_reads' HO_304001.out).2.2)); (case side4 => exact (Kd.R_reads' HO_304001.out).2.1); (case side5 => exact zk_ (Kd.C_below HR0_0.out HB.out)); (case side6 => exact HC0_0.out); (case side7 => exact zk_ (Kd.C_below HR0_1.out HB.out)); (case side8 => exact HC0_1.out); rintro e w158 ⟨rfl, hb⟩; refine ⟨_, rfl, ?_⟩; replace HO_304000 := Aside0.mk (Kd.R_below (zr_ HO_304000.out) hb); replace HO_304001 := Aside0.mk (Kd.R_below (zr_ HO_304001.out) hb); replace HO_317000 := Aside0.mk (Kd.R_below (zr_ HO_317000.out) hb); replace HO_317001 := Aside0.mk (Kd.R_below (zr_ HO_317001.out) hb); replace HO_325000 := Aside0.mk (Kd.R_below (zr_ HO_325000.out) hb); replace HO_325001 := Aside0.mk (Kd.R_below (zr_ HO_325001.out) hb); replace HO_333000 := Aside0.mk (Kd.R_below (zr_ HO_333000.out) hb); replace HO_333001 := Aside0.mk (Kd.R_below (zr_ HO_333001.out) hb); replace BK284 := Aside0.mk (zl_ BK284 hb); replace BK285 := Aside0.mk (zl_ BK285 hb); replace BK303 := Aside0.mk (zl_ BK303 hb); replace BK316 := Aside0.mk (zl_ BK316 hb); replace BK324 := Aside0.mk (zl_ BK324 hb); replace BK332 := Aside0.mk (zl_ BK332 hb); replace HB := Aside0.mk (below_step (zw6_ HB GE284 GE285 GE303 GE316 GE324 GE332) hb); (try clear hb); have hnb159 := NB316_285.out; have hnc159 := NB285_316.out; have hnb160 := NB316_324.out; have hnc160 := NB324_316.out; have hcz161_0 := zx_ (v := .slice Ao76 y307.length co76) BK316 0; have hcz161_1 := zx_ (v := u317001) BK316 1; have hfz161_0 := blk_frozen BK316.out 0; have hfz161_1 := blk_frozen BK316.out 1; have hnb162 := NB285_324.out; have hnc162 := NB324_285.out; have hcz163_0 := zx_ (v := .slice A1_0 l1_0.length c1_0) BK285 0; have hcz163_1 := zx_ (v := .slice A1_1 l1_1.length c1_1) BK285 1; have hfz163_0 := blk_frozen BK285.out 0; have hfz163_1 := blk_frozen BK285.out 1; obtain ⟨Ao164, co164, eo164⟩ := Kd.R_slice HO_317001.out; subst eo164) | (go_at_call 21; (with_reducible refine (tens_Same.calls k3 _ _ y307 _ _ x317001_3 _ _ l1_0 _ _ l1_1 t336 _ ?side1 ?side2 ?side3 ?side4 ?side5 ?side6 ?side7 ?side8 A140.out).mono ?_); (case side1 => exact zk_ ((Kd.R_reads' HO_317000.out).2.2)); (case side2 => exact (Kd.R_reads' HO_317000.out).2.1); (case side3 => exact zk_ ((Kd.R_reads' HO_317001.out).2.2)); (case side4 => exact (Kd.R_reads' HO_317001.out).2.1); (case side5 => exact zk_ (Kd.C_below HR1_0.out HB.out)); (case side6 => exact HC1_0.out); (case side7 => exact zk_ (Kd.C_below HR1_1.out HB.out)); (case side8 => exact HC1_1.out); rintro e w165 ⟨rfl, hb⟩; replace HO_304000 := Aside0.mk (Kd.R_below (zr_ HO_304000.out) hb); replace HO_304001 := Aside0.mk (Kd.R_below (zr_ HO_304001.out) hb); replace HO_317000 := Aside0.mk (Kd.R_below (zr_ HO_317000.out) hb); replace HO_317001 := Aside0.mk (Kd.R_below (zr_ HO_317001.out) hb); replace HO_325000 := Aside0.mk (Kd.R_below (zr_ HO_325000.out) hb); replace HO_325001 := Aside0.mk (Kd.R_below (zr_ HO_325001.out) hb); replace HO_333000 := Aside0.mk (Kd.R_below (zr_ HO_333000.out) hb); replace HO_333001 := Aside0.mk (Kd.R_below (zr_ HO_333001.out) hb); replace BK284 := Aside0.mk (zl_ BK284 hb); replace BK285 := Aside0.mk (zl_ BK285 hb); replace BK303 := Aside0.mk (zl_ BK303 hb); replace BK316 := Aside0.mk (zl_ BK316 hb); replace BK324 := Aside0.mk (zl_ BK324 hb); replace BK332 := Aside0.mk (zl_ BK332 hb); replace HB := Aside0.mk (below_step (zw6_ HB GE284 GE285 GE303 GE316 GE324 GE332) hb); (try clear hb)))
               go_ret
               exact ⟨by first | rfl | (simp [errW_none, errW_some] <;> rfl) | (simp [*, errW_none, errW_some] <;> rfl), zw6_ HB GE284 GE285 GE303 GE316 GE324 GE332⟩
              ·replace c139 := Bool.eq_false_iff.mpr c139
               subst c139
               have H1 : (none) = some r := by rw [if_neg (show ¬ (false = true) by decide)] at H; exact H
               clear H
               have H := H1
               clear H1
               exact absurd H (by simp)
        ·rw [if_neg c44] at H
         exact absurd H (by simp)
       ·rw [if_neg c43] at H
        exact absurd H (by simp)
      ·rw [if_neg c42] at H
       exact absurd H (by simp)
     ·rw [if_neg c41] at H
      exact absurd H (by simp)
 ·replace c4 := Bool.eq_false_iff.mpr c4
  subst c4
  have H1 : (none) = some r := by rw [if_neg (show ¬ (false = true) by decide)] at H; exact H
  clear H
  have H := H1
  clear H1
  exact absurd H (by simp)

/-- THE ONE PURE STATEMENT of carousellaw6_TensKeeps. -/
def carousellaw6_TensKeeps.Pure : Prop := ∀ (l0_0 : List Int) (l0_1 : List Int) (l1_0 : List Int) (l1_1 : List Int), l0_0.length ≤ maxLen → (∀ x ∈ l0_0, (Lit.int .i64 x).wf = true) → l0_1.length ≤ maxLen → (∀ x ∈ l0_1, (Lit.int .i64 x).wf = true) → l1_0.length ≤ maxLen → (∀ x ∈ l1_0, (Lit.int .i64 x).wf = true) → l1_1.length ≤ maxLen → (∀ x ∈ l1_1, (Lit.int .i64 x).wf = true) → ∃ k, carousellaw6_TensKeeps.f k l0_0 l0_1 l1_0 l1_1 = some true

end Go.Proofs.Ytbdhabpplidgfaa.PTensKeeps
